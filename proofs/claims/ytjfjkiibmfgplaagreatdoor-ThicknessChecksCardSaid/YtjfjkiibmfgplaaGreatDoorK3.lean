/- Thickness: Mean; klippelaw12.shape. -/
import Derived.Test.YtjfjkiibmfgplaaGreatDoorK2
import Derived.Deep.RegionHeld3
import Derived.Deep.DeepCutAuto
import Derived.Deep.AppendLies
/- The walk over thickness.double. -/
namespace Go.Proofs.YtjfjkiibmfgplaaGreatDoor
open Go.RowKit Go.Lib

/-- The doubled area of a triangle. -/
def areaT (P : List PtQ) (tr : Tri) : Rat := areaQ (ptI P tr.1) (ptI P tr.2.1) (ptI P tr.2.2)

set_option maxHeartbeats 4000000 in
set_option maxRecDepth 100000 in
theorem double_any (w : World) (vp vt : Value) (P : List PtQ) (T : List Tri) (k : Nat) (hp : RdP w vp (strP P)) (hm : MeshIn P T k) (tr : Tri) (htr : tr ∈ T) (hg : Good w) :
    Calls Tryz.prog 85 #[.agg #[vp, vt], .agg #[.int .i64 tr.1, .int .i64 tr.2.1, .int .i64 tr.2.2]] w (Ret (fun r _ => r = .string (RS (areaT P tr))) w) := by
  obtain ⟨pp, cp, rfl, hpc, hpm, hpr⟩ := hp.open
  rw [strP_length] at hpc ⊢
  have hidx := hm.idx tr htr
  have hk := hm.kpos
  have hk2 := hm.klim
  have hsp := hm.sz
  unfold areaT
  obtain ⟨q0z, q1z, q2z⟩ := tr
  dsimp only at hidx ⊢
  obtain ⟨a00, a01⟩ := hidx q0z (by simp [idxOf])
  obtain ⟨a10, a11⟩ := hidx q1z (by simp [idxOf])
  obtain ⟨a20, a21⟩ := hidx q2z (by simp [idxOf])
  obtain ⟨q0, rfl⟩ : ∃ q : Nat, q0z = (q : Int) := ⟨q0z.toNat, by omega⟩
  obtain ⟨q1, rfl⟩ : ∃ q : Nat, q1z = (q : Int) := ⟨q1z.toNat, by omega⟩
  obtain ⟨q2, rfl⟩ : ∃ q : Nat, q2z = (q : Int) := ⟨q2z.toNat, by omega⟩
  have g0 : q0 < P.length := by omega
  have g1 : q1 < P.length := by omega
  have g2 : q2 < P.length := by omega
  obtain ⟨bp, op, rfl, hbp, hpc'⟩ := hpr (by intro e; have h := strP_length P; rw [e] at h; simp at h; omega)
  rw [ptI_nat P q0 g0, ptI_nat P q1 g1, ptI_nat P q2 g2]
  obtain ⟨k00, k01⟩ := hpc' q0 (by rw [strP_length]; exact g0)
  obtain ⟨k10, k11⟩ := hpc' q1 (by rw [strP_length]; exact g1)
  obtain ⟨k20, k21⟩ := hpc' q2 (by rw [strP_length]; exact g2)
  rw [strP_get P q0 g0] at k00 k01
  rw [strP_get P q1 g1] at k10 k11
  rw [strP_get P q2 g2] at k20 k21
  dsimp only at k00 k01 k10 k11 k20 k21
  have f0 : (q0 : Int) < (P.length : Int) := by omega
  have f1 : (q1 : Int) < (P.length : Int) := by omega
  have f2 : (q2 : Int) < (P.length : Int) := by omega
  have ha := hsp P[q0] (List.getElem_mem _)
  have hb := hsp P[q1] (List.getElem_mem _)
  have hc := hsp P[q2] (List.getElem_mem _)
  generalize P[q0] = p0 at *
  generalize P[q1] = p1 at *
  generalize P[q2] = p2 at *
  obtain ⟨ax, ay⟩ := p0
  obtain ⟨bx, bY⟩ := p1
  obtain ⟨cx, cy⟩ := p2
  unfold areaQ
  dsimp only [SzP] at *
  have HA := Lib.hid ha
  have HB := Lib.hid hb
  have HC := Lib.hid hc
  clear htr hidx hpr hpc' hp hm a00 a01 a10 a11 a20 a21 ha hb hc hsp
  have HS1 : Hid (Sz (2 * k + 1) (bx - ax)) := (HB.out.1.sub HA.out.1).mono (by omega)
  have HS2 : Hid (Sz (2 * k + 1) (cy - ay)) := (HC.out.2.sub HA.out.2).mono (by omega)
  have HS3 : Hid (Sz (2 * k + 1) (bY - ay)) := (HB.out.2.sub HA.out.2).mono (by omega)
  have HS4 : Hid (Sz (2 * k + 1) (cx - ax)) := (HC.out.1.sub HA.out.1).mono (by omega)
  have HM1 : Hid (Sz (4 * k + 2) ((bx - ax) * (cy - ay))) := (HS1.out.mul HS2.out).mono (by omega)
  have HM2 : Hid (Sz (4 * k + 2) ((bY - ay) * (cx - ax))) := (HS3.out.mul HS4.out).mono (by omega)
  go_enter Tryz.func85, Tryz.ntmps85
  go_wp2_with fail
  obtain ⟨W0, hW0⟩ : ∃ W0, W0 = (w.alloc (.cells #[.slice (some ⟨bp, op, none⟩) P.length cp, vt] 40)).alloc (.cells #[.int .i64 q0, .int .i64 q1, .int .i64 q2] 58) := ⟨_, rfl⟩
  have hB0 : Below w.heap.size w W0 := by rw [hW0]; exact ((Below.refl _ _).alloc (Nat.le_refl _) _).alloc (by simp) _
  have bT : BoxN W0 (w.heap.size + 1) 58 [.int .i64 q0, .int .i64 q1, .int .i64 q2] := by rw [hW0]; exact BoxN.new _ _ _ _ (by simp)
  have bM : BoxN W0 w.heap.size 40 [.slice (some ⟨bp, op, none⟩) P.length cp, vt] := by
    rw [hW0]
    have h1 := (BoxN.new w #[.slice (some ⟨bp, op, none⟩) P.length cp, vt] 40 _ rfl)
    exact h1.below ((Below.refl _ _).alloc (Nat.le_refl _) _) h1.lt
  have x0 := bM.cell 0 rfl
  have t0 := bT.cell 0 rfl
  have t1 := bT.cell 1 rfl
  have t2 := bT.cell 2 rfl
  have l00 := (hB0.cell (p := ⟨bp, op + q0 * 2, none⟩) hbp).trans k00
  have l01 := (hB0.cell (p := ⟨bp, op + q0 * 2 + 1, none⟩) hbp).trans k01
  have l10 := (hB0.cell (p := ⟨bp, op + q1 * 2, none⟩) hbp).trans k10
  have l11 := (hB0.cell (p := ⟨bp, op + q1 * 2 + 1, none⟩) hbp).trans k11
  have l20 := (hB0.cell (p := ⟨bp, op + q2 * 2, none⟩) hbp).trans k20
  have l21 := (hB0.cell (p := ⟨bp, op + q2 * 2 + 1, none⟩) hbp).trans k21
  have hzW0 := bT.lt
  rw [← hW0]
  clear hW0 k00 k01 k10 k11 k20 k21 bM bT
  go_cut [5, 6, 7] (fun s5 s6 s7 wx => ∃ b5 b6 b7 : Nat, s5 = .pointer (some ⟨b5, 0, none⟩) ∧ s6 = .pointer (some ⟨b6, 0, none⟩) ∧ s7 = .pointer (some ⟨b7, 0, none⟩) ∧ BoxP wx b5 (ax, ay) ∧ BoxP wx b6 (bx, bY) ∧ BoxP wx b7 (cx, cy) ∧ Below w.heap.size w wx)
  case first =>
    have x0_1 := fun o => cell_alloc_l o x0
    have x0_2 := fun o p => cell_alloc_l p (x0_1 o)
    have x0_3 := fun o p q => cell_alloc_l q (x0_2 o p)
    have t0_1 := fun o => cell_alloc_l o t0
    have t0_2 := fun o p => cell_alloc_l p (t0_1 o)
    have t0_3 := fun o p q => cell_alloc_l q (t0_2 o p)
    have t1_1 := fun o => cell_alloc_l o t1
    have t1_2 := fun o p => cell_alloc_l p (t1_1 o)
    have t1_3 := fun o p q => cell_alloc_l q (t1_2 o p)
    have t2_1 := fun o => cell_alloc_l o t2
    have t2_2 := fun o p => cell_alloc_l p (t2_1 o)
    have t2_3 := fun o p q => cell_alloc_l q (t2_2 o p)
    have l00_1 := fun o => cell_alloc_l o l00
    have l00_2 := fun o p => cell_alloc_l p (l00_1 o)
    have l00_3 := fun o p q => cell_alloc_l q (l00_2 o p)
    have l01_1 := fun o => cell_alloc_l o l01
    have l01_2 := fun o p => cell_alloc_l p (l01_1 o)
    have l01_3 := fun o p q => cell_alloc_l q (l01_2 o p)
    have l10_1 := fun o => cell_alloc_l o l10
    have l10_2 := fun o p => cell_alloc_l p (l10_1 o)
    have l10_3 := fun o p q => cell_alloc_l q (l10_2 o p)
    have l11_1 := fun o => cell_alloc_l o l11
    have l11_2 := fun o p => cell_alloc_l p (l11_1 o)
    have l11_3 := fun o p q => cell_alloc_l q (l11_2 o p)
    have l20_1 := fun o => cell_alloc_l o l20
    have l20_2 := fun o p => cell_alloc_l p (l20_1 o)
    have l20_3 := fun o p q => cell_alloc_l q (l20_2 o p)
    have l21_1 := fun o => cell_alloc_l o l21
    have l21_2 := fun o p => cell_alloc_l p (l21_1 o)
    have l21_3 := fun o p q => cell_alloc_l q (l21_2 o p)
    go_region_held3 (fun w' => w'.cell? ⟨w.heap.size, 0, none⟩ = some (.slice (some ⟨bp, op, none⟩) P.length cp) ∧ w'.cell? ⟨w.heap.size + 1, 0, none⟩ = some (.int .i64 q0) ∧ w'.cell? ⟨w.heap.size + 1, 1, none⟩ = some (.int .i64 q1) ∧ w'.cell? ⟨w.heap.size + 1, 2, none⟩ = some (.int .i64 q2) ∧ w'.cell? ⟨bp, op + q0 * 2, none⟩ = some (.string (RS ax)) ∧ w'.cell? ⟨bp, op + q0 * 2 + 1, none⟩ = some (.string (RS ay)) ∧ w'.cell? ⟨bp, op + q1 * 2, none⟩ = some (.string (RS bx)) ∧ w'.cell? ⟨bp, op + q1 * 2 + 1, none⟩ = some (.string (RS bY)) ∧ w'.cell? ⟨bp, op + q2 * 2, none⟩ = some (.string (RS cx)) ∧ w'.cell? ⟨bp, op + q2 * 2 + 1, none⟩ = some (.string (RS cy)))
      (first | exact ⟨x0, t0, t1, t2, l00, l01, l10, l11, l20, l21⟩ | exact ⟨x0_1 _, t0_1 _, t1_1 _, t2_1 _, l00_1 _, l01_1 _, l10_1 _, l11_1 _, l20_1 _, l21_1 _⟩ | exact ⟨x0_2 _ _, t0_2 _ _, t1_2 _ _, t2_2 _ _, l00_2 _ _, l01_2 _ _, l10_2 _ _, l11_2 _ _, l20_2 _ _, l21_2 _ _⟩ | exact ⟨x0_3 _ _ _, t0_3 _ _ _, t1_3 _ _ _, t2_3 _ _ _, l00_3 _ _ _, l01_3 _ _ _, l10_3 _ _ _, l11_3 _ _ _, l20_3 _ _ _, l21_3 _ _ _⟩)
      (first | fail)
    all_goals
      go_wp2_with fail
      go_meet
      refine ⟨_, _, _, rfl, rfl, rfl, ?_, ?_, ?_, ?_⟩
      · first | exact boxP_new _ (ax, ay) _ _ (by simp) | exact (boxP_new _ (ax, ay) _ _ (by simp)).alloc _ | exact ((boxP_new _ (ax, ay) _ _ (by simp)).alloc _).alloc _
      · first | exact boxP_new _ (bx, bY) _ _ (by simp) | exact (boxP_new _ (bx, bY) _ _ (by simp)).alloc _ | exact ((boxP_new _ (bx, bY) _ _ (by simp)).alloc _).alloc _
      · first | exact boxP_new _ (cx, cy) _ _ (by simp) | exact (boxP_new _ (cx, cy) _ _ (by simp)).alloc _ | exact ((boxP_new _ (cx, cy) _ _ (by simp)).alloc _).alloc _
      · exact (((hB0.alloc hB0.size _).alloc (by have := hB0.size; simp; omega) _).alloc (by have := hB0.size; simp; omega) _).trans ((below_drewN _ 1).mono (by have := hB0.size; simp; omega))
  case rest =>
    obtain ⟨b5, b6, b7, rfl, rfl, rfl, ⟨a0, a1⟩, ⟨b0, b1⟩, ⟨c0, c1⟩, hbW⟩ := hcut
    have hl5 := World.block_lt_of_cell? wc _ a0
    have hl6 := World.block_lt_of_cell? wc _ b0
    have hl7 := World.block_lt_of_cell? wc _ c0
    dsimp only at hl5 hl6 hl7 a0 a1 b0 b1 c0 c1
    clear x0 t0 t1 t2 l00 l01 l10 l11 l20 l21 hB0 hzW0
    have hgd : Good wc.drew := (hg.below hbW).drewN 1
    go_wp2_with fail
    go_region_held3 (fun w' => w'.cell? ⟨b5, 0, none⟩ = some (.string (RS ax)) ∧ w'.cell? ⟨b5, 1, none⟩ = some (.string (RS ay)) ∧ w'.cell? ⟨b6, 0, none⟩ = some (.string (RS bx)) ∧ w'.cell? ⟨b7, 1, none⟩ = some (.string (RS cy)))
      (first | exact ⟨a0, a1, b0, c1⟩ | exact ⟨p_1_0, p_1_1, p_1_2, p_1_3⟩ | exact ⟨p_2_0, p_2_1, p_2_2, p_2_3⟩ | exact ⟨p_3_0, p_3_1, p_3_2, p_3_3⟩)
      (first
      | (go_at_call 53; refine (ratMul_any (bx - ax) (cy - ay) (2 * k + 1) (by omega) (by omega) HS1.out HS2.out _ pg2).mono ?_; rintro e pw3 ⟨_, rfl, rfl, pb3⟩
         have p_3_0 := (pb3.cell (p := ⟨b5, 0, none⟩) (by show b5 < pw2.heap.size; omega)).trans p_2_0
         have p_3_1 := (pb3.cell (p := ⟨b5, 1, none⟩) (by show b5 < pw2.heap.size; omega)).trans p_2_1
         have p_3_2 := (pb3.cell (p := ⟨b6, 0, none⟩) (by show b6 < pw2.heap.size; omega)).trans p_2_2
         have p_3_3 := (pb3.cell (p := ⟨b7, 1, none⟩) (by show b7 < pw2.heap.size; omega)).trans p_2_3
         have ps3 : pw2.heap.size ≤ pw3.heap.size := pb3.size
         have pg3 : Good pw3 := pg2.below pb3)
      | (go_at_call 57; refine (ratSub_any cy ay k hk (by omega) HC.out.2 HA.out.2 _ pg1).mono ?_; rintro e pw2 ⟨_, rfl, rfl, pb2⟩
         have p_2_0 := (pb2.cell (p := ⟨b5, 0, none⟩) (by show b5 < pw1.heap.size; omega)).trans p_1_0
         have p_2_1 := (pb2.cell (p := ⟨b5, 1, none⟩) (by show b5 < pw1.heap.size; omega)).trans p_1_1
         have p_2_2 := (pb2.cell (p := ⟨b6, 0, none⟩) (by show b6 < pw1.heap.size; omega)).trans p_1_2
         have p_2_3 := (pb2.cell (p := ⟨b7, 1, none⟩) (by show b7 < pw1.heap.size; omega)).trans p_1_3
         have ps2 : pw1.heap.size ≤ pw2.heap.size := pb2.size
         have pg2 : Good pw2 := pg1.below pb2)
      | (go_at_call 57; refine (ratSub_any bx ax k hk (by omega) HB.out.1 HA.out.1 _ hgd).mono ?_; rintro e pw1 ⟨_, rfl, rfl, pb1⟩
         have p_1_0 := (pb1.cell (p := ⟨b5, 0, none⟩) (by show b5 < wc.heap.size; omega)).trans a0
         have p_1_1 := (pb1.cell (p := ⟨b5, 1, none⟩) (by show b5 < wc.heap.size; omega)).trans a1
         have p_1_2 := (pb1.cell (p := ⟨b6, 0, none⟩) (by show b6 < wc.heap.size; omega)).trans b0
         have p_1_3 := (pb1.cell (p := ⟨b7, 1, none⟩) (by show b7 < wc.heap.size; omega)).trans c1
         have ps1 : wc.heap.size ≤ pw1.heap.size := pb1.size
         have pg1 : Good pw1 := hgd.below pb1))
    have pB : Below wc.heap.size wc pw3 := ((((below_drewN wc 1).trans (pb1.mono (by show wc.heap.size ≤ wc.heap.size; omega))).trans (pb2.mono (by show wc.heap.size ≤ pw1.heap.size; omega))).trans (pb3.mono (by show wc.heap.size ≤ pw2.heap.size; omega)))
    have hbW3 := hbW.trans (pB.mono hbW.size)
    have d0 := (pB.cell (p := ⟨b5, 0, none⟩) (by show b5 < wc.heap.size; omega)).trans a0
    have d1 := (pB.cell (p := ⟨b5, 1, none⟩) (by show b5 < wc.heap.size; omega)).trans a1
    have d2 := (pB.cell (p := ⟨b6, 1, none⟩) (by show b6 < wc.heap.size; omega)).trans b1
    have d3 := (pB.cell (p := ⟨b7, 0, none⟩) (by show b7 < wc.heap.size; omega)).trans c0
    have hl53 : b5 < pw3.heap.size := by omega
    have hl63 : b6 < pw3.heap.size := by omega
    have hl73 : b7 < pw3.heap.size := by omega
    have hgd3 : Good pw3.drew := pg3.drewN 1
    clear a0 a1 b0 b1 c0 c1 pB pb1 pb2 pb3 hbW p_1_0 p_1_1 p_1_2 p_1_3 p_2_0 p_2_1 p_2_2 p_2_3 p_3_0 p_3_1 p_3_2 p_3_3
    go_wp2_with fail
    go_region_held3 (fun w' => w'.cell? ⟨b5, 0, none⟩ = some (.string (RS ax)) ∧ w'.cell? ⟨b5, 1, none⟩ = some (.string (RS ay)) ∧ w'.cell? ⟨b6, 1, none⟩ = some (.string (RS bY)) ∧ w'.cell? ⟨b7, 0, none⟩ = some (.string (RS cx)))
      (first | exact ⟨d0, d1, d2, d3⟩ | exact ⟨q_1_0, q_1_1, q_1_2, q_1_3⟩ | exact ⟨q_2_0, q_2_1, q_2_2, q_2_3⟩ | exact ⟨q_3_0, q_3_1, q_3_2, q_3_3⟩ | exact ⟨q_4_0, q_4_1, q_4_2, q_4_3⟩)
      (first
      | (go_at_call 57; refine (ratSub_any ((bx - ax) * (cy - ay)) ((bY - ay) * (cx - ax)) (4 * k + 2) (by omega) (by omega) HM1.out HM2.out _ qg3).mono ?_; rintro e qw4 ⟨_, rfl, rfl, qb4⟩
         have q_4_0 := (qb4.cell (p := ⟨b5, 0, none⟩) (by show b5 < qw3.heap.size; omega)).trans q_3_0
         have q_4_1 := (qb4.cell (p := ⟨b5, 1, none⟩) (by show b5 < qw3.heap.size; omega)).trans q_3_1
         have q_4_2 := (qb4.cell (p := ⟨b6, 1, none⟩) (by show b6 < qw3.heap.size; omega)).trans q_3_2
         have q_4_3 := (qb4.cell (p := ⟨b7, 0, none⟩) (by show b7 < qw3.heap.size; omega)).trans q_3_3
         have qs4 : qw3.heap.size ≤ qw4.heap.size := qb4.size
         have qg4 : Good qw4 := qg3.below qb4)
      | (go_at_call 53; refine (ratMul_any (bY - ay) (cx - ax) (2 * k + 1) (by omega) (by omega) HS3.out HS4.out _ qg2).mono ?_; rintro e qw3 ⟨_, rfl, rfl, qb3⟩
         have q_3_0 := (qb3.cell (p := ⟨b5, 0, none⟩) (by show b5 < qw2.heap.size; omega)).trans q_2_0
         have q_3_1 := (qb3.cell (p := ⟨b5, 1, none⟩) (by show b5 < qw2.heap.size; omega)).trans q_2_1
         have q_3_2 := (qb3.cell (p := ⟨b6, 1, none⟩) (by show b6 < qw2.heap.size; omega)).trans q_2_2
         have q_3_3 := (qb3.cell (p := ⟨b7, 0, none⟩) (by show b7 < qw2.heap.size; omega)).trans q_2_3
         have qs3 : qw2.heap.size ≤ qw3.heap.size := qb3.size
         have qg3 : Good qw3 := qg2.below qb3)
      | (go_at_call 57; refine (ratSub_any cx ax k hk (by omega) HC.out.1 HA.out.1 _ qg1).mono ?_; rintro e qw2 ⟨_, rfl, rfl, qb2⟩
         have q_2_0 := (qb2.cell (p := ⟨b5, 0, none⟩) (by show b5 < qw1.heap.size; omega)).trans q_1_0
         have q_2_1 := (qb2.cell (p := ⟨b5, 1, none⟩) (by show b5 < qw1.heap.size; omega)).trans q_1_1
         have q_2_2 := (qb2.cell (p := ⟨b6, 1, none⟩) (by show b6 < qw1.heap.size; omega)).trans q_1_2
         have q_2_3 := (qb2.cell (p := ⟨b7, 0, none⟩) (by show b7 < qw1.heap.size; omega)).trans q_1_3
         have qs2 : qw1.heap.size ≤ qw2.heap.size := qb2.size
         have qg2 : Good qw2 := qg1.below qb2)
      | (go_at_call 57; refine (ratSub_any bY ay k hk (by omega) HB.out.2 HA.out.2 _ hgd3).mono ?_; rintro e qw1 ⟨_, rfl, rfl, qb1⟩
         have q_1_0 := (qb1.cell (p := ⟨b5, 0, none⟩) (by show b5 < pw3.heap.size; omega)).trans d0
         have q_1_1 := (qb1.cell (p := ⟨b5, 1, none⟩) (by show b5 < pw3.heap.size; omega)).trans d1
         have q_1_2 := (qb1.cell (p := ⟨b6, 1, none⟩) (by show b6 < pw3.heap.size; omega)).trans d2
         have q_1_3 := (qb1.cell (p := ⟨b7, 0, none⟩) (by show b7 < pw3.heap.size; omega)).trans d3
         have qs1 : pw3.heap.size ≤ qw1.heap.size := qb1.size
         have qg1 : Good qw1 := hgd3.below qb1))
    have qB : Below pw3.heap.size pw3 qw4 := (((((below_drewN pw3 1).trans (qb1.mono (by show pw3.heap.size ≤ pw3.heap.size; omega))).trans (qb2.mono (by show pw3.heap.size ≤ qw1.heap.size; omega))).trans (qb3.mono (by show pw3.heap.size ≤ qw2.heap.size; omega))).trans (qb4.mono (by show pw3.heap.size ≤ qw3.heap.size; omega)))
    go_wp2_with fail
    go_ret
    exact ⟨_, rfl, rfl, hbW3.trans (qB.mono hbW3.size)⟩

end Go.Proofs.YtjfjkiibmfgplaaGreatDoor

/- The walk over klippelaw12.shape. -/
namespace Go.Proofs.YtjfjkiibmfgplaaGreatDoor
open Go.RowKit Go.Lib

/-- Places of whole numbers. -/
def cellsN (ps : List (Int × Int)) : List Value := ps.flatMap fun p => [.int .i64 p.1, .int .i64 p.2]
def RdN (w : World) (v : Value) (ps : List (Int × Int)) : Prop := RdC 2 w v ps.length (cellsN ps)
theorem RdN.open {w : World} {v : Value} {ps : List (Int × Int)} (h : RdN w v ps) : ∃ p c, v = .slice p ps.length c ∧ ps.length ≤ c ∧ c ≤ maxLen ∧
    (ps ≠ [] → ∃ b off, p = some ⟨b, off, none⟩ ∧ b < w.heap.size ∧ ∀ (i : Nat) (hi : i < ps.length), w.cell? ⟨b, off + i * 2, none⟩ = some (.int .i64 ps[i].1) ∧ w.cell? ⟨b, off + i * 2 + 1, none⟩ = some (.int .i64 ps[i].2)) := by
  obtain ⟨p, c, hv, h1, h2, h3, h4⟩ := h
  refine ⟨p, c, hv, h1, h2, fun hne => ?_⟩
  obtain ⟨b, off, hp, hc⟩ := h4 (by
    cases ps with
    | nil => exact absurd rfl hne
    | cons a l => simp [cellsN])
  have hcell : ∀ (i : Nat) (hi : i < ps.length), w.cell? ⟨b, off + i * 2, none⟩ = some (.int .i64 ps[i].1) ∧ w.cell? ⟨b, off + i * 2 + 1, none⟩ = some (.int .i64 ps[i].2) := fun i hi => by
    have e := getElem?_flatMap_const (fun p : Int × Int => [Value.int .i64 p.1, .int .i64 p.2]) 2 (fun _ => rfl) ps i
    refine ⟨?_, ?_⟩
    · have := hc (i * 2) (.int .i64 ps[i].1) (by have := e 0 (by omega); rw [Nat.add_zero] at this; unfold cellsN; rw [this, List.getElem?_eq_getElem hi]; rfl)
      exact this
    · have := hc (i * 2 + 1) (.int .i64 ps[i].2) (by have := e 1 (by omega); unfold cellsN; rw [this, List.getElem?_eq_getElem hi]; rfl)
      rw [← Nat.add_assoc] at this
      exact this
  exact ⟨b, off, hp, World.block_lt_of_cell? w _ (hcell 0 (List.length_pos_iff.2 hne)).1, hcell⟩

theorem RdC.fresh (sz : Nat) (w : World) (cs : Array Value) (ty n : Nat) (hl : cs.size = n * sz) (hn : n ≤ 1000) (l : List Value) (hcs : cs.toList = l) (g : Nat) (hgs : g = w.heap.size) :
    RdC sz (w.alloc (.cells cs ty)) (.slice (some ⟨g, 0, none⟩) n n) n l := by
  subst hgs
  subst hcs
  refine ⟨some ⟨w.heap.size, 0, none⟩, n, rfl, Nat.le_refl _, Nat.le_trans hn (by decide), by rw [Array.length_toList]; exact hl, fun _ => ⟨w.heap.size, 0, rfl, fun i x hx => ?_⟩⟩
  rw [World.cell?_alloc_at _ _ _ _ rfl]
  simpa using hx

/-- The eight shapes. -/
def shapeP : Nat → List (Int × Int)
  | 0 => [(0, 0), (4, 0), (4, 4), (0, 4)]
  | 1 => [(0, 0), (4, 0), (4, 4), (0, 4)]
  | 2 => [(0, 0), (4, 0), (4, 4), (0, 4), (2, 1)]
  | 3 => [(0, 0), (6, 0), (0, 4)]
  | 4 => [(0, 0), (2, 0), (4, 0), (0, 2), (2, 2), (4, 2)]
  | 5 => [(1, 4), (5, 3), (4, 0), (0, 0)]
  | 6 => [(0, 0), (4, 0), (4, 4), (0, 4), (2, 0)]
  | _ => [(0, 0), (6, 0), (0, 6), (2, 2)]
def shapeT : Nat → List Tri
  | 0 => [(0, 1, 2), (0, 2, 3)]
  | 1 => [(0, 1, 3), (1, 2, 3)]
  | 2 => [(0, 1, 4), (1, 2, 4), (2, 3, 4), (3, 0, 4)]
  | 3 => [(2, 0, 1)]
  | 4 => [(0, 1, 4), (0, 4, 3), (1, 2, 5), (1, 5, 4)]
  | 5 => [(3, 2, 1), (3, 1, 0)]
  | 6 => [(0, 4, 3), (4, 2, 3), (4, 1, 2)]
  | _ => [(0, 1, 3), (1, 2, 3), (2, 0, 3)]
theorem info_pair : ((Tryz.prog).info? 159).map (fun i => (i.zero, i.size, i.bytes)) = some (some (.agg #[.int .i64 0, .int .i64 0]), 2, 16) := by kernel_rfl
theorem cell_two (w : World) (x y : Value) (E : Nat) : ∀ (j : Nat) (u : Value), [x, y][j]? = some u → (w.alloc (.cells #[x, y] E)).cell? ((⟨w.heap.size, 0, none⟩ : Addr).add j) = some u := World.news_of_block (cs := #[x, y]) (t := E) (fr := (0, 0)) (World.alloc_heap_new w _)

set_option maxHeartbeats 4000000 in
set_option maxRecDepth 100000 in
theorem shape_any (w : World) (kz : Int) (k : Nat) (hk : kz.tmod 8 = (k : Int)) (hk0 : 0 ≤ kz) (hk1 : kz ≤ 255) (_hg : Good w) :
    Calls Tryz.prog 99 #[.int .u8 kz] w (Ret (fun r w' => ∃ vp vt, r = .tuple #[vp, vt] ∧ RdN w' vp (shapeP k) ∧ RdT w' vt (shapeT k)) w) := by
  have hk7 : k ≤ 7 := by
    have h1 : kz.tmod 8 = kz % 8 := Int.tmod_eq_emod_of_nonneg hk0
    omega
  have hmod : kz % 8 = (k : Int) := by rw [← hk]; exact (Int.tmod_eq_emod_of_nonneg hk0).symm
  obtain ⟨i0, hi, hz0, hz1, hz2⟩ := info_parts info_pair
  have hw : IntKind.u8.wrap (kz.tmod 8) = (k : Int) := by rw [hk]; rcases (by omega : k = 0 ∨ k = 1 ∨ k = 2 ∨ k = 3 ∨ k = 4 ∨ k = 5 ∨ k = 6 ∨ k = 7) with rfl | rfl | rfl | rfl | rfl | rfl | rfl | rfl <;> rfl
  have HK1 := Lib.hid hk0
  have HK2 := Lib.hid hk1
  rcases (by omega : k = 0 ∨ k = 1 ∨ k = 2 ∨ k = 3 ∨ k = 4 ∨ k = 5 ∨ k = 6 ∨ k = 7) with rfl | rfl | rfl | rfl | rfl | rfl | rfl | rfl
  · go_enter Tryz.func99, Tryz.ntmps99
    go_wp2_with fail
    go_ret2
    exact ⟨_, rfl, ⟨_, _, rfl, (RdC.fresh 2 w _ _ 4 rfl (by omega) _ rfl _ rfl).alloc _, RdC.fresh 3 _ _ _ 2 rfl (by omega) _ rfl _ (by simp)⟩, ((Below.refl _ _).alloc (Nat.le_refl _) _).alloc (by simp) _⟩
  · go_enter Tryz.func99, Tryz.ntmps99
    go_wp2_with fail
    go_ret2
    exact ⟨_, rfl, ⟨_, _, rfl, (RdC.fresh 2 w _ _ 4 rfl (by omega) _ rfl _ rfl).alloc _, RdC.fresh 3 _ _ _ 2 rfl (by omega) _ rfl _ (by simp)⟩, ((Below.refl _ _).alloc (Nat.le_refl _) _).alloc (by simp) _⟩
  · go_enter Tryz.func99, Tryz.ntmps99
    have hown : ((w.alloc (.cells #[.int .i64 0, .int .i64 0, .int .i64 4, .int .i64 0, .int .i64 4, .int .i64 4, .int .i64 0, .int .i64 4] 159)).alloc (.cells #[.int .i64 2, .int .i64 1] 159)).ownsRow w.heap.size 159 2 (.slice (some ⟨w.heap.size, 0, none⟩) 4 4) 4 [.int .i64 0, .int .i64 0, .int .i64 4, .int .i64 0, .int .i64 4, .int .i64 4, .int .i64 0, .int .i64 4] := (World.ownsRow_lit w _ 4 (Nat.le_refl _) (by decide) rfl).alloc _
    go_wp2_with (at_builtin; refine wpList_append_own _ rfl _ _ 155 rfl w.heap.size 159 i0 (.agg #[.int .i64 0, .int .i64 0]) 2 16 Tryz.underlying155 hi hz0 hz1 hz2 rfl (by decide) _ _ _ rfl hown ⟨w.heap.size + 1, 0, none⟩ 1 1 [.int .i64 2, .int .i64 1] rfl rfl (by have := cell_two (w.alloc (.cells #[.int .i64 0, .int .i64 0, .int .i64 4, .int .i64 0, .int .i64 4, .int .i64 4, .int .i64 0, .int .i64 4] 159)) (.int .i64 2) (.int .i64 1) 159; simpa using this) (by intro u hu; simp at hu; rcases hu with rfl | rfl <;> rfl) (by decide) (by omega) (by simp; omega) ?_
                 intro v2 w2 hown2 hgrow2 _
                 obtain ⟨p2, c2, rfl⟩ := ownsRow_shape hown2
                 have hB2 : Below w.heap.size w w2 := (((Below.refl _ _).alloc (Nat.le_refl _) _).alloc (by simp) _).grown hgrow2 (by simp; omega) (fun j hj => by have := (hown.lt j hj).1; omega)
                 clear hgrow2)
    go_ret2
    have hsz := hB2.size
    exact ⟨_, rfl, ⟨_, _, rfl, (RdC.of_owns hown2).alloc _, RdC.fresh 3 _ _ _ 4 rfl (by omega) _ rfl _ (by simp)⟩, hB2.alloc hsz _⟩
  · go_enter Tryz.func99, Tryz.ntmps99
    go_wp2_with fail
    go_ret2
    exact ⟨_, rfl, ⟨_, _, rfl, (RdC.fresh 2 _ _ _ 3 rfl (by omega) _ rfl _ (by simp)).alloc _, RdC.fresh 3 _ _ _ 1 rfl (by omega) _ rfl _ (by simp)⟩, (((Below.refl _ _).alloc (Nat.le_refl _) _).alloc (by simp) _).alloc (by simp; omega) _⟩
  · go_enter Tryz.func99, Tryz.ntmps99
    go_wp2_with fail
    go_ret2
    exact ⟨_, rfl, ⟨_, _, rfl, (RdC.fresh 2 _ _ _ 6 rfl (by omega) _ rfl _ (by simp)).alloc _, RdC.fresh 3 _ _ _ 4 rfl (by omega) _ rfl _ (by simp)⟩, (((Below.refl _ _).alloc (Nat.le_refl _) _).alloc (by simp) _).alloc (by simp; omega) _⟩
  · go_enter Tryz.func99, Tryz.ntmps99
    go_wp2_with fail
    go_ret2
    exact ⟨_, rfl, ⟨_, _, rfl, (RdC.fresh 2 _ _ _ 4 rfl (by omega) _ rfl _ (by simp)).alloc _, RdC.fresh 3 _ _ _ 2 rfl (by omega) _ rfl _ (by simp)⟩, (((Below.refl _ _).alloc (Nat.le_refl _) _).alloc (by simp) _).alloc (by simp; omega) _⟩
  · go_enter Tryz.func99, Tryz.ntmps99
    have hown : ((w.alloc (.cells #[.int .i64 0, .int .i64 0, .int .i64 4, .int .i64 0, .int .i64 4, .int .i64 4, .int .i64 0, .int .i64 4] 159)).alloc (.cells #[.int .i64 2, .int .i64 0] 159)).ownsRow w.heap.size 159 2 (.slice (some ⟨w.heap.size, 0, none⟩) 4 4) 4 [.int .i64 0, .int .i64 0, .int .i64 4, .int .i64 0, .int .i64 4, .int .i64 4, .int .i64 0, .int .i64 4] := (World.ownsRow_lit w _ 4 (Nat.le_refl _) (by decide) rfl).alloc _
    go_wp2_with (at_builtin; refine wpList_append_own _ rfl _ _ 155 rfl w.heap.size 159 i0 (.agg #[.int .i64 0, .int .i64 0]) 2 16 Tryz.underlying155 hi hz0 hz1 hz2 rfl (by decide) _ _ _ rfl hown ⟨w.heap.size + 1, 0, none⟩ 1 1 [.int .i64 2, .int .i64 0] rfl rfl (by have := cell_two (w.alloc (.cells #[.int .i64 0, .int .i64 0, .int .i64 4, .int .i64 0, .int .i64 4, .int .i64 4, .int .i64 0, .int .i64 4] 159)) (.int .i64 2) (.int .i64 0) 159; simpa using this) (by intro u hu; simp at hu; rcases hu with rfl | rfl <;> rfl) (by decide) (by omega) (by simp; omega) ?_
                 intro v2 w2 hown2 hgrow2 _
                 obtain ⟨p2, c2, rfl⟩ := ownsRow_shape hown2
                 have hB2 : Below w.heap.size w w2 := (((Below.refl _ _).alloc (Nat.le_refl _) _).alloc (by simp) _).grown hgrow2 (by simp; omega) (fun j hj => by have := (hown.lt j hj).1; omega)
                 clear hgrow2)
    go_ret2
    have hsz := hB2.size
    exact ⟨_, rfl, ⟨_, _, rfl, (RdC.of_owns hown2).alloc _, RdC.fresh 3 _ _ _ 3 rfl (by omega) _ rfl _ (by simp)⟩, hB2.alloc hsz _⟩
  · go_enter Tryz.func99, Tryz.ntmps99
    go_wp2_with fail
    go_ret2
    exact ⟨_, rfl, ⟨_, _, rfl, (RdC.fresh 2 _ _ _ 4 rfl (by omega) _ rfl _ (by simp)).alloc _, RdC.fresh 3 _ _ _ 3 rfl (by omega) _ rfl _ (by simp)⟩, (((Below.refl _ _).alloc (Nat.le_refl _) _).alloc (by simp) _).alloc (by simp; omega) _⟩

end Go.Proofs.YtjfjkiibmfgplaaGreatDoor

/- The walk over thickness.Mean. -/
namespace Go.Proofs.YtjfjkiibmfgplaaGreatDoor
open Go.RowKit Go.Lib

/-- What the mean sums up. -/
def triSum (D : List Rat) (tr : Tri) : Rat := [hI D tr.1, hI D tr.2.1, hI D tr.2.2].foldl (· + ·) 0
def sumM (P : List PtQ) (D : List Rat) (T : List Tri) : Rat := T.foldl (fun s tr => s + areaT P tr * triSum D tr) 0
def allM (P : List PtQ) (T : List Tri) : Rat := T.foldl (fun s tr => s + areaT P tr) 0
def meanQ (P : List PtQ) (D : List Rat) (T : List Tri) : Rat := sumM P D T / (3 * allM P T)

theorem foldl_step {α β : Type} (f : β → α → β) (b : β) (l : List α) (i : Nat) (h : i < l.length) : (l.take (i + 1)).foldl f b = f ((l.take i).foldl f b) l[i] := by
  rw [List.take_succ_eq_append_getElem h, List.foldl_append]; rfl
theorem Sz.areaT {P : List PtQ} {T : List Tri} {k : Nat} (hm : MeshIn P T k) {tr : Tri} (htr : tr ∈ T) : Sz (8 * k + 5) (areaT P tr) := by
  have hidx := hm.idx tr htr
  have hp : ∀ z ∈ idxOf tr, SzP k (ptI P z) := fun z hz => by
    obtain ⟨h0, h1⟩ := hidx z hz
    obtain ⟨q, rfl⟩ : ∃ q : Nat, z = (q : Int) := ⟨z.toNat, by omega⟩
    rw [ptI_nat P q (by omega)]
    exact hm.sz _ (List.getElem_mem _)
  have h0 := hp tr.1 (by simp [idxOf])
  have h1 := hp tr.2.1 (by simp [idxOf])
  have h2 := hp tr.2.2 (by simp [idxOf])
  unfold Go.Proofs.YtjfjkiibmfgplaaGreatDoor.areaT areaQ
  have m1 : Sz (4 * k + 2) _ := ((h1.1.sub h0.1).mul (h2.2.sub h0.2)).mono (by omega)
  have m2 : Sz (4 * k + 2) _ := ((h1.2.sub h0.2).mul (h2.1.sub h0.1)).mono (by omega)
  exact (m1.sub m2).mono (by omega)
theorem difQ_Sz {L U : List Rat} {k : Nat} (hL : ∀ q ∈ L, Sz k q) (hU : ∀ q ∈ U, Sz k q) : ∀ q ∈ difQ L U, Sz (2 * k + 1) q := fun q hq => by
  unfold difQ at hq
  obtain ⟨i, hi, rfl⟩ := List.mem_iff_getElem.1 hq
  rw [List.length_zipWith] at hi
  rw [List.getElem_zipWith]
  exact ((hU _ (List.getElem_mem _)).sub (hL _ (List.getElem_mem _))).mono (by omega)
theorem hI_Sz {F : List Rat} {k : Nat} (hk : 0 < k) (h : ∀ q ∈ F, Sz k q) (z : Int) : Sz k (hI F z) := by
  unfold hI
  cases hz : F[z.toNat]? with
  | none => exact Sz.zero k hk
  | some q => exact h q (List.mem_of_getElem? hz)
theorem triSum_Sz {D : List Rat} {k : Nat} (hk : 0 < k) (h : ∀ q ∈ D, Sz k q) (tr : Tri) : Sz (3 * k + 4) (triSum D tr) := by
  unfold triSum
  show Sz _ (0 + hI D tr.1 + hI D tr.2.1 + hI D tr.2.2)
  rw [Rat.zero_add]
  exact (((hI_Sz hk h _).add (hI_Sz hk h _)).add (hI_Sz hk h _)).mono (by omega)
theorem RS_three : RS 3 = ⟨#[51]⟩ := by
  have h : RL 3 = [51] := by
    have := RL_int 3
    rw [show ((3 : Int) : Rat) = 3 from rfl] at this
    rw [this]
    decide +kernel
  unfold RS; rw [h]
theorem RdQ.fresh (w : World) (xs : List Rat) (ty : Nat) (cs : Array Value) (hcs : cs.toList = xs.map fun x => Value.string (RS x)) (hl : xs.length ≤ 1000) (n : Nat) (hn : n = xs.length) (g : Nat) (hgs : g = w.heap.size) :
    RdQ (w.alloc (Obj.cells cs ty)) (.slice (some ⟨g, 0, none⟩) n n) xs := by
  subst hn
  exact RdC.fresh 1 w cs ty _ (by rw [← Array.length_toList, hcs, List.length_map]; omega) hl _ hcs g hgs

set_option maxHeartbeats 4000000 in
set_option maxRecDepth 100000 in
theorem mean_ok (w : World) (vp vt vl vu : Value) (P : List PtQ) (T : List Tri) (k : Nat) (L U : List Rat) (h : PairIn w vp vt vl vu P T k L U) (hk : k ≤ 20) (hT : T.length ≤ 20)
    (hall : allM P T ≠ 0) (hsz : Sz 200 (meanQ P (difQ L U) T)) (hg : Good w) :
    Calls Tryz.prog 32 #[.agg #[vp, vt, vl, vu]] w (Ret (fun r _ => r = .tuple #[.string (RS (meanQ P (difQ L U) T)), .int .i64 0]) w) := by
  have HH := Lib.hid h
  have hkp := h.l.m.kpos
  have hlen : L.length = U.length := by rw [h.l.fl, h.u.fl]
  have hul := h.u.fl
  have hpl := h.l.m.plen
  have HDZ := Lib.hid (difQ_Sz h.l.fs h.u.fs)
  have HDL : Hid ((difQ L U).length = P.length) := by unfold Hid; rw [difQ_length _ _ hlen, hul]
  have HDF : Hid (∀ w, PairIn w vp vt vl vu P T k L U → Good w → _) := fun w h hg => differences_any w vp vt vl vu k L U hkp (by omega) h.l.f h.u.f hlen (by omega) h.l.fs h.u.fs hg
  obtain ⟨pp, cp, pt, ct, pl, cl, pu, cu, rfl, rfl, rfl, rfl⟩ := h.open
  have HM := Lib.hid h.l.m.toMeshIn
  have HALL := Lib.hid hall
  have HSZ := Lib.hid hsz
  have HMQ : Hid (meanQ P (difQ L U) T = sumM P (difQ L U) T / (3 * allM P T)) := rfl
  generalize hD : difQ L U = D at *
  generalize hmq : meanQ P D T = mq at *
  clear h hall hsz hD hmq hlen hul
  go_enter Tryz.func32, Tryz.ntmps32
  go_wp2_with fail
  obtain ⟨W, hW⟩ : ∃ W, W = w.alloc (.cells #[.slice pp P.length cp, .slice pt T.length ct, .slice pl L.length cl, .slice pu U.length cu] 44) := ⟨_, rfl⟩
  have hB : Below w.heap.size w W := by rw [hW]; exact (Below.refl _ _).alloc (Nat.le_refl _) _
  have b0 : BoxN W w.heap.size 44 [.slice pp P.length cp, .slice pt T.length ct, .slice pl L.length cl, .slice pu U.length cu] := by rw [hW]; exact BoxN.new _ _ _ _ rfl
  rw [← hW]
  clear hW
  refine (tcheck_ok W _ _ _ _ P T k L U (HH.out.below hB) (hg.below hB)).mono ?_
  rintro e w1 ⟨_, rfl, rfl, hb1⟩
  have hB1 := hB.trans (hb1.mono hB.size)
  have b1 := b0.below hb1 b0.lt
  have c0 := b1.cell 0 rfl
  have c1 := b1.cell 1 rfl
  have c2 := b1.cell 2 rfl
  have c3 := b1.cell 3 rfl
  clear hb1 hB b0
  go_wp2_with fail
  refine (HDF.out w1 (HH.out.below hB1) (hg.below hB1)).mono ?_
  rintro e w2 ⟨vd, rfl, ⟨hrd, hfr⟩, hb2⟩
  have hB2 := hB1.trans (hb2.mono hB1.size)
  have b2 := b1.below hb2 b1.lt
  have hz2 := b2.lt
  clear hb2 hB1 b1 c0 c1 c2 c3 HDF
  obtain ⟨pd, cd, rfl, hdc, hdm, hdr⟩ := hrd.open
  have HDR := Lib.hid hdr
  have d1 := b2.cell 1 rfl
  have d0 := b2.cell 0 rfl
  rw [HDL.out] at hdc ⊢
  clear hrd hdr
  go_wp2_with fail
  go_loopw [6, 7, 24] (fun t6 t7 t24 wr => ∃ (i : Nat) (s a : Rat), t6 = .string (RS s) ∧ t7 = .string (RS a) ∧ t24 = .int .i64 i ∧ i ≤ T.length ∧ Hid (s = sumM P D (T.take i)) ∧ Hid (a = allM P (T.take i)) ∧ Hid (Sz (i * 900 + 1) s) ∧ Hid (Sz (i * 400 + 1) a) ∧ Below w2.heap.size w2 wr) (fun _ _ t24 _ => T.length - (RowKit.intOf t24).toNat)
  case atStart => exact ⟨0, 0, 0, congrArg Value.string RS_zero.symm, congrArg Value.string RS_zero.symm, rfl, Nat.zero_le _, rfl, rfl, Sz.zero _ (by omega), Sz.zero _ (by omega), Below.refl _ _⟩
  case round =>
    obtain ⟨i, s, a, rfl, rfl, rfl, hi, HS, HA, HSS, HSA, hbl⟩ := hrel
    have hzr := hbl.size
    rcases Nat.lt_or_ge i T.length with h | h
    · obtain ⟨bt, ot, ct', e', hbt, t0, t1, t2⟩ := HH.out.l.tri i h
      cases e'
      have hmem := List.getElem_mem h
      obtain ⟨tr, htr⟩ : ∃ tr, tr = T[i] := ⟨_, rfl⟩
      have hidx := HM.out.idx _ hmem
      have HST : Hid (sumM P D (T.take (i + 1)) = s + areaT P tr * triSum D tr) := by unfold Hid; rw [HS.out, htr]; exact foldl_step _ _ _ _ h
      have HAT : Hid (allM P (T.take (i + 1)) = a + areaT P tr) := by unfold Hid; rw [HA.out, htr]; exact foldl_step _ _ _ _ h
      rw [← htr] at t0 t1 t2 hmem hidx
      have hbW : Below w.heap.size w wr := hB2.trans (hbl.mono hB2.size)
      have HDB : Hid (∀ w', Below w.heap.size w w' → Good w' → Calls Tryz.prog 85 #[.agg #[.slice pp P.length cp, .slice (some ⟨bt, ot, none⟩) T.length ct], .agg #[.int .i64 tr.1, .int .i64 tr.2.1, .int .i64 tr.2.2]] w' (Ret (fun r _ => r = .string (RS (areaT P tr))) w')) := fun w' hb hg' => double_any w' _ _ P T k (HH.out.below hb).l.p HM.out tr hmem hg'
      have HZA : Hid (Sz 165 (areaT P tr)) := (Sz.areaT HM.out hmem).mono (by omega)
      have HZT : Hid (Sz 127 (triSum D tr)) := (triSum_Sz (by omega) HDZ.out tr).mono (by omega)
      have HZM : Hid (Sz 292 (areaT P tr * triSum D tr)) := (HZA.out.mul HZT.out).mono (by omega)
      have HZSN : Hid (Sz ((i + 1) * 900 + 1) (s + areaT P tr * triSum D tr)) := (HSS.out.add HZM.out).mono (by omega)
      have HZAN : Hid (Sz ((i + 1) * 400 + 1) (a + areaT P tr)) := (HSA.out.add HZA.out).mono (by omega)
      have HADDA : Hid (∀ w, Good w → _) := fun w hg => ratAdd_any a (areaT P tr) 20000 (by omega) (by omega) (HSA.out.mono (by omega)) (HZA.out.mono (by omega)) w hg
      have HMULT : Hid (∀ w, Good w → _) := fun w hg => ratMul_any (areaT P tr) (triSum D tr) 20000 (by omega) (by omega) (HZA.out.mono (by omega)) (HZT.out.mono (by omega)) w hg
      have HADDS : Hid (∀ w, Good w → _) := fun w hg => ratAdd_any s (areaT P tr * triSum D tr) 20000 (by omega) (by omega) (HSS.out.mono (by omega)) (HZM.out.mono (by omega)) w hg
      have HSUM : Hid (∀ (v : Value) (w : World), RdQ w v [hI D tr.1, hI D tr.2.1, hI D tr.2.2] → Good w → Calls Tryz.prog 86 #[v] w (Ret (fun r _ => r = .string (RS (triSum D tr))) w)) := fun v w hr hg => ratSum_any [hI D tr.1, hI D tr.2.1, hI D tr.2.2] 41 (by omega) (by simp) (by
        intro q hq
        simp only [List.mem_cons, List.not_mem_nil, or_false] at hq
        rcases hq with rfl | rfl | rfl <;> exact (hI_Sz (by omega) HDZ.out _).mono (by omega)) v w hr hg
      generalize areaT P tr * triSum D tr = pr at *
      generalize triSum D tr = ts at *
      generalize areaT P tr = ar at *
      obtain ⟨q0z, q1z, q2z⟩ := tr
      dsimp only at t0 t1 t2 hidx HDB HSUM
      obtain ⟨a00, a01⟩ := hidx q0z (by simp [idxOf])
      obtain ⟨a10, a11⟩ := hidx q1z (by simp [idxOf])
      obtain ⟨a20, a21⟩ := hidx q2z (by simp [idxOf])
      obtain ⟨q0, rfl⟩ : ∃ q : Nat, q0z = (q : Int) := ⟨q0z.toNat, by omega⟩
      obtain ⟨q1, rfl⟩ : ∃ q : Nat, q1z = (q : Int) := ⟨q1z.toNat, by omega⟩
      obtain ⟨q2, rfl⟩ : ∃ q : Nat, q2z = (q : Int) := ⟨q2z.toNat, by omega⟩
      have hdl := HDL.out
      rw [hI_nat D q0 (by omega), hI_nat D q1 (by omega), hI_nat D q2 (by omega)] at HSUM
      obtain ⟨bd, od, rfl, hbd, hdcell⟩ := HDR.out (by intro e; rw [e] at hdl; simp at hdl; omega)
      have f0 := hdcell q0 (by omega)
      have f1 := hdcell q1 (by omega)
      have f2 := hdcell q2 (by omega)
      generalize D[q0]'_ = h0 at *
      generalize D[q1]'_ = h1 at *
      generalize D[q2]'_ = h2 at *
      have x0 := (hbl.cell (p := ⟨w.heap.size, 0, none⟩) hz2).trans d0
      have x1 := (hbl.cell (p := ⟨w.heap.size, 1, none⟩) hz2).trans d1
      have y0 := (hbW.cell (p := ⟨bt, ot + i * 3, none⟩) hbt).trans t0
      have y1 := (hbW.cell (p := ⟨bt, ot + i * 3 + 1, none⟩) hbt).trans t1
      have y2 := (hbW.cell (p := ⟨bt, ot + i * 3 + 2, none⟩) hbt).trans t2
      have z0 := (hbl.cell (p := ⟨bd, od + q0, none⟩) hbd).trans f0
      have z1 := (hbl.cell (p := ⟨bd, od + q1, none⟩) hbd).trans f1
      have z2 := (hbl.cell (p := ⟨bd, od + q2, none⟩) hbd).trans f2
      have hiz : (i : Int) < (T.length : Int) := by omega
      have r0 : (q0 : Int) < (P.length : Int) := by omega
      have r1 : (q1 : Int) < (P.length : Int) := by omega
      have r2 : (q2 : Int) < (P.length : Int) := by omega
      clear t0 t1 t2 f0 f1 f2 hdcell hidx htr hmem a00 a01 a10 a11 a20 a21 HS HA HSS HSA hdl d0 d1
      go_upto_region 9 with fail
      obtain ⟨W3, hW3⟩ : ∃ W3, W3 = wr.alloc (.cells #[.int .i64 q0, .int .i64 q1, .int .i64 q2] 58) := ⟨_, rfl⟩
      have hb3 : Below wr.heap.size wr W3 := by rw [hW3]; exact (Below.refl _ _).alloc (Nat.le_refl _) _
      have b9 : BoxN W3 wr.heap.size 58 [.int .i64 q0, .int .i64 q1, .int .i64 q2] := by rw [hW3]; exact BoxN.new _ _ _ _ rfl
      rw [← hW3]
      clear hW3
      have hbW3 : Below w.heap.size w W3 := hbW.trans (hb3.mono hbW.size)
      have hbl3 : Below w2.heap.size w2 W3 := hbl.trans (hb3.mono hzr)
      have u0 := (hb3.cell (p := ⟨w.heap.size, 0, none⟩) (by show w.heap.size < wr.heap.size; omega)).trans x0
      have u1 := (hb3.cell (p := ⟨w.heap.size, 1, none⟩) (by show w.heap.size < wr.heap.size; omega)).trans x1
      have v0 := b9.cell 0 rfl
      have v1 := b9.cell 1 rfl
      have v2 := b9.cell 2 rfl
      have n0 := (hb3.cell (p := ⟨bd, od + q0, none⟩) (by show bd < wr.heap.size; omega)).trans z0
      have n1 := (hb3.cell (p := ⟨bd, od + q1, none⟩) (by show bd < wr.heap.size; omega)).trans z1
      have n2 := (hb3.cell (p := ⟨bd, od + q2, none⟩) (by show bd < wr.heap.size; omega)).trans z2
      have hl9 := b9.lt
      clear x0 x1 y0 y1 y2 z0 z1 z2 hb3
      go_wp2_with fail
      refine (HDB.out W3 hbW3 (hg.below hbW3)).mono ?_
      rintro e w4 ⟨_, rfl, rfl, hb4⟩
      have hbW4 : Below w.heap.size w w4 := hbW3.trans (hb4.mono hbW3.size)
      have hbl4 : Below w2.heap.size w2 w4 := hbl3.trans (hb4.mono hbl3.size)
      have b94 := b9.below hb4 hl9
      have m0 := (hb4.cell (p := ⟨bd, od + q0, none⟩) (by show bd < W3.heap.size; omega)).trans n0
      have m1 := (hb4.cell (p := ⟨bd, od + q1, none⟩) (by show bd < W3.heap.size; omega)).trans n1
      have m2 := (hb4.cell (p := ⟨bd, od + q2, none⟩) (by show bd < W3.heap.size; omega)).trans n2
      have hl94 := b94.lt
      have hzz4 := hb4.size
      clear u0 u1 v0 v1 v2 n0 n1 n2 hb4 b9 hbW3 hbl3
      go_wp2_with fail
      refine (HADDA.out w4 (hg.below hbW4)).mono ?_
      rintro e w5 ⟨_, rfl, rfl, hb5⟩
      have hbW5 : Below w.heap.size w w5 := hbW4.trans (hb5.mono hbW4.size)
      have hbl5 : Below w2.heap.size w2 w5 := hbl4.trans (hb5.mono hbl4.size)
      have b95 := b94.below hb5 hl94
      have o0 := (hb5.cell (p := ⟨bd, od + q0, none⟩) (by show bd < w4.heap.size; omega)).trans m0
      have o1 := (hb5.cell (p := ⟨bd, od + q1, none⟩) (by show bd < w4.heap.size; omega)).trans m1
      have o2 := (hb5.cell (p := ⟨bd, od + q2, none⟩) (by show bd < w4.heap.size; omega)).trans m2
      have v0 := b95.cell 0 rfl
      have v1 := b95.cell 1 rfl
      have v2 := b95.cell 2 rfl
      have hl95 := b95.lt
      have hzz5 := hb5.size
      clear m0 m1 m2 hb5 b94 hbW4 hbl4 hl94
      have hgd : Good w5.drew := (hg.below hbW5).drewN 1
      go_upto_region 11 with fail
      go_region_held3 (fun w' => w'.cell? ⟨wr.heap.size, 0, none⟩ = some (.int .i64 q0) ∧ w'.cell? ⟨wr.heap.size, 1, none⟩ = some (.int .i64 q1) ∧ w'.cell? ⟨wr.heap.size, 2, none⟩ = some (.int .i64 q2) ∧ w'.cell? ⟨bd, od + q0, none⟩ = some (.string (RS h0)) ∧ w'.cell? ⟨bd, od + q1, none⟩ = some (.string (RS h1)) ∧ w'.cell? ⟨bd, od + q2, none⟩ = some (.string (RS h2)))
        (first | exact ⟨v0, v1, v2, o0, o1, o2⟩ | exact ⟨cell_alloc_l _ v0, cell_alloc_l _ v1, cell_alloc_l _ v2, cell_alloc_l _ o0, cell_alloc_l _ o1, cell_alloc_l _ o2⟩ | exact ⟨p6_0, p6_1, p6_2, p6_3, p6_4, p6_5⟩ | exact ⟨p7_0, p7_1, p7_2, p7_3, p7_4, p7_5⟩ | exact ⟨p8_0, p8_1, p8_2, p8_3, p8_4, p8_5⟩)
        (first
        | (go_at_call 54; refine (HADDS.out _ g7).mono ?_; rintro e w8 ⟨_, rfl, rfl, hb8⟩
           have p8_0 := (hb8.cell (p := ⟨wr.heap.size, 0, none⟩) (by show wr.heap.size < w7.heap.size; omega)).trans p7_0
           have p8_1 := (hb8.cell (p := ⟨wr.heap.size, 1, none⟩) (by show wr.heap.size < w7.heap.size; omega)).trans p7_1
           have p8_2 := (hb8.cell (p := ⟨wr.heap.size, 2, none⟩) (by show wr.heap.size < w7.heap.size; omega)).trans p7_2
           have p8_3 := (hb8.cell (p := ⟨bd, od + q0, none⟩) (by show bd < w7.heap.size; omega)).trans p7_3
           have p8_4 := (hb8.cell (p := ⟨bd, od + q1, none⟩) (by show bd < w7.heap.size; omega)).trans p7_4
           have p8_5 := (hb8.cell (p := ⟨bd, od + q2, none⟩) (by show bd < w7.heap.size; omega)).trans p7_5
           have hb8z := hb8.size
           have g8 : Good w8 := Good.below g7 hb8)
        | (go_at_call 53; refine (HMULT.out _ g6).mono ?_; rintro e w7 ⟨_, rfl, rfl, hb7⟩
           have p7_0 := (hb7.cell (p := ⟨wr.heap.size, 0, none⟩) (by show wr.heap.size < w6.heap.size; omega)).trans p6_0
           have p7_1 := (hb7.cell (p := ⟨wr.heap.size, 1, none⟩) (by show wr.heap.size < w6.heap.size; omega)).trans p6_1
           have p7_2 := (hb7.cell (p := ⟨wr.heap.size, 2, none⟩) (by show wr.heap.size < w6.heap.size; omega)).trans p6_2
           have p7_3 := (hb7.cell (p := ⟨bd, od + q0, none⟩) (by show bd < w6.heap.size; omega)).trans p6_3
           have p7_4 := (hb7.cell (p := ⟨bd, od + q1, none⟩) (by show bd < w6.heap.size; omega)).trans p6_4
           have p7_5 := (hb7.cell (p := ⟨bd, od + q2, none⟩) (by show bd < w6.heap.size; omega)).trans p6_5
           have hb7z := hb7.size
           have g7 : Good w7 := Good.below g6 hb7)
        | (go_at_call 86; refine (HSUM.out _ _ (RdQ.fresh w5.drew [h0, h1, h2] _ _ rfl (by simp) 3 rfl _ rfl) (hgd.alloc _)).mono ?_; rintro e w6 ⟨_, rfl, rfl, hb6⟩
           have p6_0 := (hb6.cell (p := ⟨wr.heap.size, 0, none⟩) (by show wr.heap.size < (w5.drew.alloc _).heap.size; simp; omega)).trans (cell_alloc_l _ v0)
           have p6_1 := (hb6.cell (p := ⟨wr.heap.size, 1, none⟩) (by show wr.heap.size < (w5.drew.alloc _).heap.size; simp; omega)).trans (cell_alloc_l _ v1)
           have p6_2 := (hb6.cell (p := ⟨wr.heap.size, 2, none⟩) (by show wr.heap.size < (w5.drew.alloc _).heap.size; simp; omega)).trans (cell_alloc_l _ v2)
           have p6_3 := (hb6.cell (p := ⟨bd, od + q0, none⟩) (by show bd < (w5.drew.alloc _).heap.size; simp; omega)).trans (cell_alloc_l _ o0)
           have p6_4 := (hb6.cell (p := ⟨bd, od + q1, none⟩) (by show bd < (w5.drew.alloc _).heap.size; simp; omega)).trans (cell_alloc_l _ o1)
           have p6_5 := (hb6.cell (p := ⟨bd, od + q2, none⟩) (by show bd < (w5.drew.alloc _).heap.size; simp; omega)).trans (cell_alloc_l _ o2)
           have hb6z : w5.heap.size ≤ w6.heap.size := by have := hb6.size; simp at this; omega
           have g6 : Good w6 := Good.below (hgd.alloc _) hb6))
      have hbA : Below w5.heap.size w5 (w5.drew.alloc (.cells #[.string (RS h0), .string (RS h1), .string (RS h2)] 33)) := (below_drewN w5 1).alloc (Nat.le_refl _) _
      have hzA := hbA.size
      have hbF : Below w5.heap.size w5 w8 := ((hbA.trans (hb6.mono hzA)).trans (hb7.mono (by omega))).trans (hb8.mono (by omega))
      have hblF : Below w2.heap.size w2 w8 := hbl5.trans (hbF.mono hbl5.size)
      go_wp2_with fail
      go_roundw
      case rel => exact ⟨i + 1, s + pr, a + ar, rfl, rfl, by simp, by omega, HST.out.symm, HAT.out.symm, HZSN, HZAN, hblF⟩
      case measure =>
        show T.length - ((i : Int) + 1).toNat < T.length - (i : Int).toNat
        omega
    · obtain rfl : i = T.length := by omega
      rw [List.take_length] at HS HA
      have hne : 3 * a ≠ 0 := fun e => by
        have h1 : a ≠ 0 := by rw [HA.out]; exact HALL.out
        rcases Rat.mul_eq_zero.1 e with h2 | h2
        · exact absurd h2 (by decide)
        · exact h1 h2
      have HMQ2 : Hid (s / (3 * a) = mq) := by unfold Hid; rw [HMQ.out, HS.out, HA.out]
      have hs3 : Sz 1 (3 : Rat) := ⟨by decide, by decide⟩
      have HM3 : Hid (∀ w, Good w → _) := fun w hg => ratMul_any 3 a 20000 (by omega) (by omega) (hs3.mono (by omega)) (HSA.out.mono (by omega)) w hg
      have HDV : Hid (∀ w, Good w → _) := fun w hg => ratDiv_any s (3 * a) 20000 (by omega) (by omega) (HSS.out.mono (by omega)) ((hs3.mul HSA.out).mono (by omega)) hne w hg
      rw [show RS 3 = ⟨#[51]⟩ from RS_three] at HM3
      have HSHT : Hid (∀ w, Good w → _) := fun w hg => short_ok mq HSZ.out w hg
      rw [HMQ2.out] at HDV
      have hbW : Below w.heap.size w wr := hB2.trans (hbl.mono hB2.size)
      generalize 3 * a = a3 at *
      clear HS HA HSS HSA hs3 HMQ2 HMQ
      go_wp2_with fail
      refine (HM3.out wr (hg.below hbW)).mono ?_
      rintro e w3 ⟨_, rfl, rfl, hb3⟩
      have hbW3 := hbW.trans (hb3.mono hbW.size)
      go_wp2_with fail
      refine (HDV.out w3 (hg.below hbW3)).mono ?_
      rintro e w4 ⟨_, rfl, rfl, hb4⟩
      have hbW4 := hbW3.trans (hb4.mono hbW3.size)
      go_wp2_with fail
      refine (HSHT.out w4 (hg.below hbW4)).mono ?_
      rintro e w5 ⟨_, rfl, rfl, hb5⟩
      go_wp2_with fail
      go_ret2
      exact ⟨_, rfl, rfl, hbW4.trans (hb5.mono hbW4.size)⟩

end Go.Proofs.YtjfjkiibmfgplaaGreatDoor
