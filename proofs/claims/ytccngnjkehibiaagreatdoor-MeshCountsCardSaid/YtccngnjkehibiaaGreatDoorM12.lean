/- The walks over klippelaw12.Orient, turn, corners, inside. -/
import Derived.Test.YtccngnjkehibiaaGreatDoorM11
namespace Go.Proofs.YtccngnjkehibiaaGreatDoor
open Go.RowKit Go.Lib

set_option maxHeartbeats 4000000 in
set_option maxRecDepth 100000 in
theorem lorient_any (a b c : PtQ) (k : Nat) (hk : 0 < k) (hk2 : k ≤ 2000) (ha : SzP k a) (hb : SzP k b) (hc : SzP k c) (w : World) (hg : Good w) :
    Calls Tryz.prog 74 #[VP a, VP b, VP c] w (Ret (fun r _ => r = .string (RS (areaQ a b c))) w) := by
  obtain ⟨W, hW, ⟨a0, a1⟩, ⟨b0, b1⟩, ⟨c0, c1⟩, hbW, hsz⟩ := three_boxes w a b c 24
  have hgW := hg.below hbW
  obtain ⟨ax, ay⟩ := a
  obtain ⟨bx, bY⟩ := b
  obtain ⟨cx, cy⟩ := c
  unfold VP areaQ
  dsimp only [SzP] at *
  have HA := Lib.hid ha
  have HB := Lib.hid hb
  have HC := Lib.hid hc
  have HW := Lib.hid hW
  clear hW ha hb hc
  go_enter Tryz.func74, Tryz.ntmps74
  have hgd : Good W.drew := hgW.drewN 1
  have HS1 : Hid (Sz (2 * k + 1) (bx - ax)) := (HB.out.1.sub HA.out.1).mono (by omega)
  have HS2 : Hid (Sz (2 * k + 1) (cy - ay)) := (HC.out.2.sub HA.out.2).mono (by omega)
  have HS3 : Hid (Sz (2 * k + 1) (bY - ay)) := (HB.out.2.sub HA.out.2).mono (by omega)
  have HS4 : Hid (Sz (2 * k + 1) (cx - ax)) := (HC.out.1.sub HA.out.1).mono (by omega)
  have HM1 : Hid (Sz (4 * k + 2) ((bx - ax) * (cy - ay))) := (HS1.out.mul HS2.out).mono (by omega)
  have HM2 : Hid (Sz (4 * k + 2) ((bY - ay) * (cx - ax))) := (HS3.out.mul HS4.out).mono (by omega)
  go_upto_region 1 with fail
  rw [← HW.out]
  go_region_held3 (fun w' => w'.cell? ⟨w.heap.size, 0, none⟩ = some (.string (RS ax)) ∧ w'.cell? ⟨w.heap.size, 1, none⟩ = some (.string (RS ay)) ∧ w'.cell? ⟨w.heap.size + 1, 0, none⟩ = some (.string (RS bx)) ∧ w'.cell? ⟨w.heap.size + 1, 1, none⟩ = some (.string (RS bY)) ∧ w'.cell? ⟨w.heap.size + 2, 0, none⟩ = some (.string (RS cx)) ∧ w'.cell? ⟨w.heap.size + 2, 1, none⟩ = some (.string (RS cy)))
    (first | exact ⟨a0, a1, b0, b1, c0, c1⟩ | exact ⟨p_1_0, p_1_1, p_1_2, p_1_3, p_1_4, p_1_5⟩ | exact ⟨p_2_0, p_2_1, p_2_2, p_2_3, p_2_4, p_2_5⟩ | exact ⟨p_3_0, p_3_1, p_3_2, p_3_3, p_3_4, p_3_5⟩ | exact ⟨p_4_0, p_4_1, p_4_2, p_4_3, p_4_4, p_4_5⟩ | exact ⟨p_5_0, p_5_1, p_5_2, p_5_3, p_5_4, p_5_5⟩ | exact ⟨p_6_0, p_6_1, p_6_2, p_6_3, p_6_4, p_6_5⟩ | exact ⟨p_7_0, p_7_1, p_7_2, p_7_3, p_7_4, p_7_5⟩)
    (first
    | (go_at_call 20; refine (ratSub_any ((bx - ax) * (cy - ay)) ((bY - ay) * (cx - ax)) (4 * k + 2) (by omega) (by omega) HM1.out HM2.out _ pg6).mono ?_; rintro e pw7 ⟨_, rfl, rfl, pb7⟩
       have p_7_0 := (pb7.cell (p := ⟨w.heap.size, 0, none⟩) (by show w.heap.size < pw6.heap.size; omega)).trans p_6_0
       have p_7_1 := (pb7.cell (p := ⟨w.heap.size, 1, none⟩) (by show w.heap.size < pw6.heap.size; omega)).trans p_6_1
       have p_7_2 := (pb7.cell (p := ⟨w.heap.size + 1, 0, none⟩) (by show w.heap.size + 1 < pw6.heap.size; omega)).trans p_6_2
       have p_7_3 := (pb7.cell (p := ⟨w.heap.size + 1, 1, none⟩) (by show w.heap.size + 1 < pw6.heap.size; omega)).trans p_6_3
       have p_7_4 := (pb7.cell (p := ⟨w.heap.size + 2, 0, none⟩) (by show w.heap.size + 2 < pw6.heap.size; omega)).trans p_6_4
       have p_7_5 := (pb7.cell (p := ⟨w.heap.size + 2, 1, none⟩) (by show w.heap.size + 2 < pw6.heap.size; omega)).trans p_6_5
       have ps7 : pw6.heap.size ≤ pw7.heap.size := pb7.size
       have pg7 : Good pw7 := pg6.below pb7)
    | (go_at_call 19; refine (ratMul_any (bY - ay) (cx - ax) (2 * k + 1) (by omega) (by omega) HS3.out HS4.out _ pg5).mono ?_; rintro e pw6 ⟨_, rfl, rfl, pb6⟩
       have p_6_0 := (pb6.cell (p := ⟨w.heap.size, 0, none⟩) (by show w.heap.size < pw5.heap.size; omega)).trans p_5_0
       have p_6_1 := (pb6.cell (p := ⟨w.heap.size, 1, none⟩) (by show w.heap.size < pw5.heap.size; omega)).trans p_5_1
       have p_6_2 := (pb6.cell (p := ⟨w.heap.size + 1, 0, none⟩) (by show w.heap.size + 1 < pw5.heap.size; omega)).trans p_5_2
       have p_6_3 := (pb6.cell (p := ⟨w.heap.size + 1, 1, none⟩) (by show w.heap.size + 1 < pw5.heap.size; omega)).trans p_5_3
       have p_6_4 := (pb6.cell (p := ⟨w.heap.size + 2, 0, none⟩) (by show w.heap.size + 2 < pw5.heap.size; omega)).trans p_5_4
       have p_6_5 := (pb6.cell (p := ⟨w.heap.size + 2, 1, none⟩) (by show w.heap.size + 2 < pw5.heap.size; omega)).trans p_5_5
       have ps6 : pw5.heap.size ≤ pw6.heap.size := pb6.size
       have pg6 : Good pw6 := pg5.below pb6)
    | (go_at_call 20; refine (ratSub_any cx ax k hk (by omega) HC.out.1 HA.out.1 _ pg4).mono ?_; rintro e pw5 ⟨_, rfl, rfl, pb5⟩
       have p_5_0 := (pb5.cell (p := ⟨w.heap.size, 0, none⟩) (by show w.heap.size < pw4.heap.size; omega)).trans p_4_0
       have p_5_1 := (pb5.cell (p := ⟨w.heap.size, 1, none⟩) (by show w.heap.size < pw4.heap.size; omega)).trans p_4_1
       have p_5_2 := (pb5.cell (p := ⟨w.heap.size + 1, 0, none⟩) (by show w.heap.size + 1 < pw4.heap.size; omega)).trans p_4_2
       have p_5_3 := (pb5.cell (p := ⟨w.heap.size + 1, 1, none⟩) (by show w.heap.size + 1 < pw4.heap.size; omega)).trans p_4_3
       have p_5_4 := (pb5.cell (p := ⟨w.heap.size + 2, 0, none⟩) (by show w.heap.size + 2 < pw4.heap.size; omega)).trans p_4_4
       have p_5_5 := (pb5.cell (p := ⟨w.heap.size + 2, 1, none⟩) (by show w.heap.size + 2 < pw4.heap.size; omega)).trans p_4_5
       have ps5 : pw4.heap.size ≤ pw5.heap.size := pb5.size
       have pg5 : Good pw5 := pg4.below pb5)
    | (go_at_call 20; refine (ratSub_any bY ay k hk (by omega) HB.out.2 HA.out.2 _ pg3).mono ?_; rintro e pw4 ⟨_, rfl, rfl, pb4⟩
       have p_4_0 := (pb4.cell (p := ⟨w.heap.size, 0, none⟩) (by show w.heap.size < pw3.heap.size; omega)).trans p_3_0
       have p_4_1 := (pb4.cell (p := ⟨w.heap.size, 1, none⟩) (by show w.heap.size < pw3.heap.size; omega)).trans p_3_1
       have p_4_2 := (pb4.cell (p := ⟨w.heap.size + 1, 0, none⟩) (by show w.heap.size + 1 < pw3.heap.size; omega)).trans p_3_2
       have p_4_3 := (pb4.cell (p := ⟨w.heap.size + 1, 1, none⟩) (by show w.heap.size + 1 < pw3.heap.size; omega)).trans p_3_3
       have p_4_4 := (pb4.cell (p := ⟨w.heap.size + 2, 0, none⟩) (by show w.heap.size + 2 < pw3.heap.size; omega)).trans p_3_4
       have p_4_5 := (pb4.cell (p := ⟨w.heap.size + 2, 1, none⟩) (by show w.heap.size + 2 < pw3.heap.size; omega)).trans p_3_5
       have ps4 : pw3.heap.size ≤ pw4.heap.size := pb4.size
       have pg4 : Good pw4 := pg3.below pb4)
    | (go_at_call 19; refine (ratMul_any (bx - ax) (cy - ay) (2 * k + 1) (by omega) (by omega) HS1.out HS2.out _ pg2).mono ?_; rintro e pw3 ⟨_, rfl, rfl, pb3⟩
       have p_3_0 := (pb3.cell (p := ⟨w.heap.size, 0, none⟩) (by show w.heap.size < pw2.heap.size; omega)).trans p_2_0
       have p_3_1 := (pb3.cell (p := ⟨w.heap.size, 1, none⟩) (by show w.heap.size < pw2.heap.size; omega)).trans p_2_1
       have p_3_2 := (pb3.cell (p := ⟨w.heap.size + 1, 0, none⟩) (by show w.heap.size + 1 < pw2.heap.size; omega)).trans p_2_2
       have p_3_3 := (pb3.cell (p := ⟨w.heap.size + 1, 1, none⟩) (by show w.heap.size + 1 < pw2.heap.size; omega)).trans p_2_3
       have p_3_4 := (pb3.cell (p := ⟨w.heap.size + 2, 0, none⟩) (by show w.heap.size + 2 < pw2.heap.size; omega)).trans p_2_4
       have p_3_5 := (pb3.cell (p := ⟨w.heap.size + 2, 1, none⟩) (by show w.heap.size + 2 < pw2.heap.size; omega)).trans p_2_5
       have ps3 : pw2.heap.size ≤ pw3.heap.size := pb3.size
       have pg3 : Good pw3 := pg2.below pb3)
    | (go_at_call 20; refine (ratSub_any cy ay k hk (by omega) HC.out.2 HA.out.2 _ pg1).mono ?_; rintro e pw2 ⟨_, rfl, rfl, pb2⟩
       have p_2_0 := (pb2.cell (p := ⟨w.heap.size, 0, none⟩) (by show w.heap.size < pw1.heap.size; omega)).trans p_1_0
       have p_2_1 := (pb2.cell (p := ⟨w.heap.size, 1, none⟩) (by show w.heap.size < pw1.heap.size; omega)).trans p_1_1
       have p_2_2 := (pb2.cell (p := ⟨w.heap.size + 1, 0, none⟩) (by show w.heap.size + 1 < pw1.heap.size; omega)).trans p_1_2
       have p_2_3 := (pb2.cell (p := ⟨w.heap.size + 1, 1, none⟩) (by show w.heap.size + 1 < pw1.heap.size; omega)).trans p_1_3
       have p_2_4 := (pb2.cell (p := ⟨w.heap.size + 2, 0, none⟩) (by show w.heap.size + 2 < pw1.heap.size; omega)).trans p_1_4
       have p_2_5 := (pb2.cell (p := ⟨w.heap.size + 2, 1, none⟩) (by show w.heap.size + 2 < pw1.heap.size; omega)).trans p_1_5
       have ps2 : pw1.heap.size ≤ pw2.heap.size := pb2.size
       have pg2 : Good pw2 := pg1.below pb2)
    | (go_at_call 20; refine (ratSub_any bx ax k hk (by omega) HB.out.1 HA.out.1 _ hgd).mono ?_; rintro e pw1 ⟨_, rfl, rfl, pb1⟩
       have p_1_0 := (pb1.cell (p := ⟨w.heap.size, 0, none⟩) (by show w.heap.size < W.heap.size; omega)).trans a0
       have p_1_1 := (pb1.cell (p := ⟨w.heap.size, 1, none⟩) (by show w.heap.size < W.heap.size; omega)).trans a1
       have p_1_2 := (pb1.cell (p := ⟨w.heap.size + 1, 0, none⟩) (by show w.heap.size + 1 < W.heap.size; omega)).trans b0
       have p_1_3 := (pb1.cell (p := ⟨w.heap.size + 1, 1, none⟩) (by show w.heap.size + 1 < W.heap.size; omega)).trans b1
       have p_1_4 := (pb1.cell (p := ⟨w.heap.size + 2, 0, none⟩) (by show w.heap.size + 2 < W.heap.size; omega)).trans c0
       have p_1_5 := (pb1.cell (p := ⟨w.heap.size + 2, 1, none⟩) (by show w.heap.size + 2 < W.heap.size; omega)).trans c1
       have ps1 : W.heap.size ≤ pw1.heap.size := pb1.size
       have pg1 : Good pw1 := hgd.below pb1))
  have pB : Below W.heap.size W pw7 := ((((((((below_drewN W 1).trans (pb1.mono (by show W.heap.size ≤ W.heap.size; omega))).trans (pb2.mono (by show W.heap.size ≤ pw1.heap.size; omega))).trans (pb3.mono (by show W.heap.size ≤ pw2.heap.size; omega))).trans (pb4.mono (by show W.heap.size ≤ pw3.heap.size; omega))).trans (pb5.mono (by show W.heap.size ≤ pw4.heap.size; omega))).trans (pb6.mono (by show W.heap.size ≤ pw5.heap.size; omega))).trans (pb7.mono (by show W.heap.size ≤ pw6.heap.size; omega)))
  go_wp2_with fail
  go_ret
  exact ⟨_, rfl, rfl, hbW.trans (pB.mono hbW.size)⟩

set_option maxHeartbeats 1000000 in
theorem lturn_any (a b c : PtQ) (k : Nat) (hk : 0 < k) (hk2 : k ≤ 2000) (ha : SzP k a) (hb : SzP k b) (hc : SzP k c) (w : World) (hg : Good w) :
    Calls Tryz.prog 38 #[VP a, VP b, VP c] w (Ret (fun r _ => r = .int .i64 (turnZ a b c)) w) := by
  obtain ⟨W, hW, ⟨a0, a1⟩, ⟨b0, b1⟩, ⟨c0, c1⟩, hbW, hsz⟩ := three_boxes w a b c 24
  have hgW := hg.below hbW
  have HA := Lib.hid ha
  have HB := Lib.hid hb
  have HC := Lib.hid hc
  have HW := Lib.hid hW
  have HT : Hid ((areaQ a b c).num.sign = turnZ a b c) := rfl
  clear hW ha hb hc
  have HAR : Hid (Calls Tryz.prog 74 #[.agg #[.string (RS a.1), .string (RS a.2)], .agg #[.string (RS b.1), .string (RS b.2)], .agg #[.string (RS c.1), .string (RS c.2)]] W (Ret (fun r _ => r = .string (RS (areaQ a b c))) W)) := lorient_any a b c k hk hk2 HA.out HB.out HC.out W hgW
  unfold VP
  obtain ⟨ax, ay⟩ := a
  obtain ⟨bx, bY⟩ := b
  obtain ⟨cx, cy⟩ := c
  dsimp only at *
  go_enter Tryz.func38, Tryz.ntmps38
  go_upto_region 1 with fail
  rw [← HW.out]
  go_wp2_with fail
  refine HAR.out.mono ?_
  rintro e w1 ⟨_, rfl, rfl, hb1⟩
  go_wp2_with fail
  refine ((ratSign_any _ _).mono fun _ _ h => h.ret).mono ?_
  rintro e w2 ⟨_, rfl, rfl, hb2⟩
  rw [HT.out]
  go_wp2_with fail
  go_ret
  exact ⟨_, rfl, rfl, (hbW.trans (hb1.mono hbW.size)).trans (hb2.mono (by have := hbW.size; have := hb1.size; omega))⟩

set_option maxHeartbeats 4000000 in
set_option maxRecDepth 100000 in
theorem lcorners_any (w : World) (vp vt : Value) (P : List PtQ) (T : List Tri) (k : Nat) (hp : RdP w vp (strP P)) (ht : RdT w vt T) (hm : MeshIn P T k) (t : Nat) (tz : Int) (htz : tz = (t : Int)) (htl : t < T.length) (tr : Tri) (htr : tr = T[t]) :
    Calls Tryz.prog 27 #[.agg #[vp, vt], .int .i64 tz] w (Ret (fun r _ => r = .agg #[.string (RS (ptI P tr.1).1), .string (RS (ptI P tr.1).2), .string (RS (ptI P tr.2.1).1), .string (RS (ptI P tr.2.1).2), .string (RS (ptI P tr.2.2).1), .string (RS (ptI P tr.2.2).2)]) w) := by
  obtain ⟨pp, cp, rfl, hpc, hpm, hpr⟩ := hp.open
  obtain ⟨pt, ct, rfl, htc, htm, htr'⟩ := ht.open
  rw [strP_length] at hpc ⊢
  obtain ⟨bt, ot, rfl, hbt, htcell⟩ := htr' (List.ne_nil_of_length_pos (by omega))
  obtain ⟨e0, e1, e2⟩ := htcell t htl
  have hidx := hm.idx tr (by rw [htr]; exact List.getElem_mem htl)
  rw [← htr] at e0 e1 e2
  obtain ⟨q0z, q1z, q2z⟩ := tr
  dsimp only at hidx e0 e1 e2 ⊢
  obtain ⟨a00, a01⟩ := hidx q0z (by simp [idxOf])
  obtain ⟨a10, a11⟩ := hidx q1z (by simp [idxOf])
  obtain ⟨a20, a21⟩ := hidx q2z (by simp [idxOf])
  obtain ⟨q0, rfl⟩ : ∃ q : Nat, q0z = (q : Int) := ⟨q0z.toNat, by omega⟩
  obtain ⟨q1, rfl⟩ : ∃ q : Nat, q1z = (q : Int) := ⟨q1z.toNat, by omega⟩
  obtain ⟨q2, rfl⟩ : ∃ q : Nat, q2z = (q : Int) := ⟨q2z.toNat, by omega⟩
  have g0 : q0 < P.length := by omega
  have g1 : q1 < P.length := by omega
  have g2 : q2 < P.length := by omega
  obtain ⟨bp, op, rfl, hbp, hpc'⟩ := hpr (by intro e; have h := strP_length P; rw [e] at h; simp at h; omega)
  rw [ptI_nat P q0 g0, ptI_nat P q1 g1, ptI_nat P q2 g2]
  obtain ⟨k00, k01⟩ := hpc' q0 (by rw [strP_length]; exact g0)
  obtain ⟨k10, k11⟩ := hpc' q1 (by rw [strP_length]; exact g1)
  obtain ⟨k20, k21⟩ := hpc' q2 (by rw [strP_length]; exact g2)
  rw [strP_get P q0 g0] at k00 k01
  rw [strP_get P q1 g1] at k10 k11
  rw [strP_get P q2 g2] at k20 k21
  dsimp only at k00 k01 k10 k11 k20 k21
  have f0 : (q0 : Int) < (P.length : Int) := by omega
  have f1 : (q1 : Int) < (P.length : Int) := by omega
  have f2 : (q2 : Int) < (P.length : Int) := by omega
  have ft : (t : Int) < (T.length : Int) := by omega
  generalize RS P[q0].1 = x0s at *
  generalize RS P[q0].2 = y0s at *
  generalize RS P[q1].1 = x1s at *
  generalize RS P[q1].2 = y1s at *
  generalize RS P[q2].1 = x2s at *
  generalize RS P[q2].2 = y2s at *
  subst htz
  clear htr hidx hpr htr' htcell hpc' hp ht hm a00 a01 a10 a11 a20 a21 g0 g1 g2
  have i0 := idx_T0
  have i1 := idx_T1
  have i2 := idx_T2
  go_enter Tryz.func27, Tryz.ntmps27
  go_wp2_with fail
  obtain ⟨W, hW⟩ : ∃ W, W = ((w.alloc (.cells #[.slice (some ⟨bp, op, none⟩) P.length cp, .slice (some ⟨bt, ot, none⟩) T.length ct] 34)).alloc (.cells #[.string ⟨#[]⟩, .string ⟨#[]⟩, .string ⟨#[]⟩, .string ⟨#[]⟩, .string ⟨#[]⟩, .string ⟨#[]⟩] 57)).alloc (.cells #[.int .i64 q0, .int .i64 q1, .int .i64 q2] 42) := ⟨_, rfl⟩
  have hB : Below w.heap.size w W := by rw [hW]; exact (((Below.refl _ _).alloc (Nat.le_refl _) _).alloc (by simp) _).alloc (by simp; omega) _
  have b5 : BoxN W (w.heap.size + 1 + 1) 42 [.int .i64 q0, .int .i64 q1, .int .i64 q2] := by rw [hW]; exact BoxN.new _ _ _ _ (by simp)
  have b4 : BoxN W (w.heap.size + 1) 57 [.string ⟨#[]⟩, .string ⟨#[]⟩, .string ⟨#[]⟩, .string ⟨#[]⟩, .string ⟨#[]⟩, .string ⟨#[]⟩] := by
    rw [hW]
    have h1 := (BoxN.new (w.alloc (.cells #[.slice (some ⟨bp, op, none⟩) P.length cp, .slice (some ⟨bt, ot, none⟩) T.length ct] 34)) #[.string ⟨#[]⟩, .string ⟨#[]⟩, .string ⟨#[]⟩, .string ⟨#[]⟩, .string ⟨#[]⟩, .string ⟨#[]⟩] 57 (w.heap.size + 1) (by simp))
    exact h1.below ((Below.refl _ _).alloc (Nat.le_refl _) _) h1.lt
  have b2 : BoxN W w.heap.size 34 [.slice (some ⟨bp, op, none⟩) P.length cp, .slice (some ⟨bt, ot, none⟩) T.length ct] := by
    rw [hW]
    have h1 := (BoxN.new w #[.slice (some ⟨bp, op, none⟩) P.length cp, .slice (some ⟨bt, ot, none⟩) T.length ct] 34 _ rfl)
    exact h1.below (((Below.refl _ _).alloc (Nat.le_refl _) _).alloc (by simp) _) h1.lt
  rw [← hW]
  clear hW
  have x0 := b2.cell 0 rfl
  have t0 := b5.cell 0 rfl
  have t1 := b5.cell 1 rfl
  have t2 := b5.cell 2 rfl
  have c00 := (hB.cell (p := ⟨bp, op + q0 * 2, none⟩) hbp).trans k00
  have c01 := (hB.cell (p := ⟨bp, op + q0 * 2 + 1, none⟩) hbp).trans k01
  have c10 := (hB.cell (p := ⟨bp, op + q1 * 2, none⟩) hbp).trans k10
  have c11 := (hB.cell (p := ⟨bp, op + q1 * 2 + 1, none⟩) hbp).trans k11
  have c20 := (hB.cell (p := ⟨bp, op + q2 * 2, none⟩) hbp).trans k20
  have c21 := (hB.cell (p := ⟨bp, op + q2 * 2 + 1, none⟩) hbp).trans k21
  have r0 := b4.cell 0 rfl
  have r1 := b4.cell 1 rfl
  have r2 := b4.cell 2 rfl
  have r3 := b4.cell 3 rfl
  have r4 := b4.cell 4 rfl
  have r5 := b4.cell 5 rfl
  have r0f := b4.frozen 0
  have r1f := b4.frozen 1
  have r2f := b4.frozen 2
  have r3f := b4.frozen 3
  have r4f := b4.frozen 4
  have r5f := b4.frozen 5
  have hz := b5.lt
  have n2 : w.heap.size + 1 ≠ w.heap.size := by omega
  have n5 : w.heap.size + 1 ≠ w.heap.size + 1 + 1 := by omega
  have np : w.heap.size + 1 ≠ bp := by omega
  have HS : Hid (W.drew.cell? ⟨w.heap.size, 0, none⟩ = some (.slice (some ⟨bp, op, none⟩) P.length cp) ∧ W.drew.cell? ⟨w.heap.size + 1 + 1, 0, none⟩ = some (.int .i64 q0) ∧ W.drew.cell? ⟨w.heap.size + 1 + 1, 1, none⟩ = some (.int .i64 q1) ∧ W.drew.cell? ⟨w.heap.size + 1 + 1, 2, none⟩ = some (.int .i64 q2) ∧ W.drew.cell? ⟨bp, op + q0 * 2, none⟩ = some (.string x0s) ∧ W.drew.cell? ⟨bp, op + q0 * 2 + 1, none⟩ = some (.string y0s) ∧ W.drew.cell? ⟨bp, op + q1 * 2, none⟩ = some (.string x1s) ∧ W.drew.cell? ⟨bp, op + q1 * 2 + 1, none⟩ = some (.string y1s) ∧ W.drew.cell? ⟨bp, op + q2 * 2, none⟩ = some (.string x2s) ∧ W.drew.cell? ⟨bp, op + q2 * 2 + 1, none⟩ = some (.string y2s)) := ⟨x0, t0, t1, t2, c00, c01, c10, c11, c20, c21⟩
  have HT : Hid (W.cell? ⟨w.heap.size, 0, none⟩ = some (.slice (some ⟨bp, op, none⟩) P.length cp) ∧ W.cell? ⟨w.heap.size + 1 + 1, 0, none⟩ = some (.int .i64 q0) ∧ W.cell? ⟨w.heap.size + 1 + 1, 1, none⟩ = some (.int .i64 q1) ∧ W.cell? ⟨w.heap.size + 1 + 1, 2, none⟩ = some (.int .i64 q2) ∧ W.cell? ⟨bp, op + q0 * 2, none⟩ = some (.string x0s) ∧ W.cell? ⟨bp, op + q0 * 2 + 1, none⟩ = some (.string y0s) ∧ W.cell? ⟨bp, op + q1 * 2, none⟩ = some (.string x1s) ∧ W.cell? ⟨bp, op + q1 * 2 + 1, none⟩ = some (.string y1s) ∧ W.cell? ⟨bp, op + q2 * 2, none⟩ = some (.string x2s) ∧ W.cell? ⟨bp, op + q2 * 2 + 1, none⟩ = some (.string y2s)) := ⟨x0, t0, t1, t2, c00, c01, c10, c11, c20, c21⟩
  clear k00 k01 k10 k11 k20 k21 e0 e1 e2
  have hBW := Lib.hid hB
  clear x0 t0 t1 t2 c00 c01 c10 c11 c20 c21 b2 b5 hB
  go_region_held3 (fun w' => w'.cell? ⟨w.heap.size, 0, none⟩ = some (.slice (some ⟨bp, op, none⟩) P.length cp) ∧ w'.cell? ⟨w.heap.size + 1 + 1, 0, none⟩ = some (.int .i64 q0) ∧ w'.cell? ⟨w.heap.size + 1 + 1, 1, none⟩ = some (.int .i64 q1) ∧ w'.cell? ⟨w.heap.size + 1 + 1, 2, none⟩ = some (.int .i64 q2) ∧ w'.cell? ⟨bp, op + q0 * 2, none⟩ = some (.string x0s) ∧ w'.cell? ⟨bp, op + q0 * 2 + 1, none⟩ = some (.string y0s) ∧ w'.cell? ⟨bp, op + q1 * 2, none⟩ = some (.string x1s) ∧ w'.cell? ⟨bp, op + q1 * 2 + 1, none⟩ = some (.string y1s) ∧ w'.cell? ⟨bp, op + q2 * 2, none⟩ = some (.string x2s) ∧ w'.cell? ⟨bp, op + q2 * 2 + 1, none⟩ = some (.string y2s))
    (first | with_reducible exact HS.out | (obtain ⟨h1, h2, h3, h4, h5, h6, h7, h8, h9, h10⟩ := HT.out; with_reducible exact ⟨(cell_far6 _ _ _ _ _ _ _ _ _ n2).trans h1, (cell_far6 _ _ _ _ _ _ _ _ _ n5).trans h2, (cell_far6 _ _ _ _ _ _ _ _ _ n5).trans h3, (cell_far6 _ _ _ _ _ _ _ _ _ n5).trans h4, (cell_far6 _ _ _ _ _ _ _ _ _ np).trans h5, (cell_far6 _ _ _ _ _ _ _ _ _ np).trans h6, (cell_far6 _ _ _ _ _ _ _ _ _ np).trans h7, (cell_far6 _ _ _ _ _ _ _ _ _ np).trans h8, (cell_far6 _ _ _ _ _ _ _ _ _ np).trans h9, (cell_far6 _ _ _ _ _ _ _ _ _ np).trans h10⟩))
    (fail)
  all_goals
    go_wp2_with fail
    have BF := (((((b4.set 0 (.string x0s)).set 1 (.string y0s)).set 2 (.string x1s)).set 3 (.string y1s)).set 4 (.string x2s)).set 5 (.string y2s)
    have g0 := BF.cell 0 rfl
    have g1 := BF.cell 1 rfl
    have g2 := BF.cell 2 rfl
    have g3 := BF.cell 3 rfl
    have g4 := BF.cell 4 rfl
    have g5 := BF.cell 5 rfl
    have hBF : Below w.heap.size w (((((((W.setCell ⟨w.heap.size + 1, 0, none⟩ (.string x0s)).setCell ⟨w.heap.size + 1, 1, none⟩ (.string y0s)).setCell ⟨w.heap.size + 1, 2, none⟩ (.string x1s)).setCell ⟨w.heap.size + 1, 3, none⟩ (.string y1s)).setCell ⟨w.heap.size + 1, 4, none⟩ (.string x2s)).setCell ⟨w.heap.size + 1, 5, none⟩ (.string y2s)).drew) := by
      have h1 : w.heap.size ≤ w.heap.size + 1 := by omega
      have := (((((hBW.out.setCell (p := ⟨w.heap.size + 1, 0, none⟩) h1 (.string x0s)).setCell (p := ⟨w.heap.size + 1, 1, none⟩) h1 (.string y0s)).setCell (p := ⟨w.heap.size + 1, 2, none⟩) h1 (.string x1s)).setCell (p := ⟨w.heap.size + 1, 3, none⟩) h1 (.string y1s)).setCell (p := ⟨w.heap.size + 1, 4, none⟩) h1 (.string x2s)).setCell (p := ⟨w.heap.size + 1, 5, none⟩) h1 (.string y2s)
      exact this.trans ((below_drewN _ 1).mono this.size)
    exact bodyPost_ret (v := .agg #[.string x0s, .string y0s, .string x1s, .string y1s, .string x2s, .string y2s]) (by simp [results, Tryz.results27, go_sem, g0, g1, g2, g3, g4, g5]) rfl ⟨_, rfl, rfl, hBF⟩

set_option maxHeartbeats 2000000 in
set_option maxRecDepth 100000 in
theorem linside_any (a b c p : PtQ) (k : Nat) (hk : 0 < k) (hk2 : k ≤ 2000) (ha : SzP k a) (hb : SzP k b) (hc : SzP k c) (hp : SzP k p) (w : World) (hg : Good w) :
    Calls Tryz.prog 32 #[.agg #[.string (RS a.1), .string (RS a.2), .string (RS b.1), .string (RS b.2), .string (RS c.1), .string (RS c.2)], .agg #[.string (RS p.1), .string (RS p.2)]] w (Ret (fun r _ => r = .bool (insideB a b c p)) w) := by
  have H1 : Hid (∀ w, Good w → _) := fun w hg => lturn_any a b p k hk hk2 ha hb hp w hg
  have H2 : Hid (∀ w, Good w → _) := fun w hg => lturn_any b c p k hk hk2 hb hc hp w hg
  have H3 : Hid (∀ w, Good w → _) := fun w hg => lturn_any c a p k hk hk2 hc ha hp w hg
  unfold insideB
  unfold VP at H1 H2 H3
  generalize turnZ a b p = z1 at *
  generalize turnZ b c p = z2 at *
  generalize turnZ c a p = z3 at *
  generalize RS a.1 = ax at *
  generalize RS a.2 = ay at *
  generalize RS b.1 = bx at *
  generalize RS b.2 = by' at *
  generalize RS c.1 = cx at *
  generalize RS c.2 = cy at *
  generalize RS p.1 = px at *
  generalize RS p.2 = py at *
  clear ha hb hc hp
  go_enter Tryz.func32, Tryz.ntmps32
  go_wp2_with fail
  obtain ⟨W, hW⟩ : ∃ W, W = (w.alloc (.cells #[.string ax, .string ay, .string bx, .string by', .string cx, .string cy] 57)).alloc (.cells #[.string px, .string py] 24) := ⟨_, rfl⟩
  have hB : Below w.heap.size w W := by rw [hW]; exact ((Below.refl _ _).alloc (Nat.le_refl _) _).alloc (by simp) _
  have e3 : BoxN W (w.heap.size + 1) 24 [.string px, .string py] := by rw [hW]; exact BoxN.new _ _ _ _ (by simp)
  have e2 : BoxN W w.heap.size 57 [.string ax, .string ay, .string bx, .string by', .string cx, .string cy] := by
    rw [hW]
    have h1 := (BoxN.new w #[.string ax, .string ay, .string bx, .string by', .string cx, .string cy] 57 _ rfl)
    exact h1.below ((Below.refl _ _).alloc (Nat.le_refl _) _) h1.lt
  rw [← hW]
  clear hW
  refine (H1.out W (hg.below hB)).mono ?_
  rintro e w1 ⟨_, rfl, rfl, hb1⟩
  have hB1 := hB.trans (hb1.mono hB.size)
  have e21 := e2.below hb1 e2.lt
  have e31 := e3.below hb1 e3.lt
  clear hb1 hB e2 e3
  rcases Int.lt_or_le z1 0 with h1 | h1
  · have d1 : decide (0 ≤ z1) = false := decide_eq_false (by omega)
    go_wp2_with fail
    go_ret
    exact ⟨_, rfl, by rw [d1]; rfl, hB1⟩
  have x0 := e21.cell 0 rfl
  have x1 := e21.cell 1 rfl
  have x2 := e21.cell 2 rfl
  have x3 := e21.cell 3 rfl
  have x4 := e21.cell 4 rfl
  have x5 := e21.cell 5 rfl
  have y0 := e31.cell 0 rfl
  have y1 := e31.cell 1 rfl
  go_wp2_with fail
  refine (H2.out w1 (hg.below hB1)).mono ?_
  rintro e w2 ⟨_, rfl, rfl, hb2⟩
  have hB2 := hB1.trans (hb2.mono hB1.size)
  have e22 := e21.below hb2 e21.lt
  have e32 := e31.below hb2 e31.lt
  have d1 : decide (0 ≤ z1) = true := decide_eq_true h1
  clear hb2 hB1 e21 e31 x0 x1 x2 x3 x4 x5 y0 y1
  rcases Int.lt_or_le z2 0 with h2 | h2
  · have d2 : decide (0 ≤ z2) = false := decide_eq_false (by omega)
    go_wp2_with fail
    go_ret
    exact ⟨_, rfl, by rw [d1, d2]; rfl, hB2⟩
  have x0 := e22.cell 0 rfl
  have x1 := e22.cell 1 rfl
  have x4 := e22.cell 4 rfl
  have x5 := e22.cell 5 rfl
  have y0 := e32.cell 0 rfl
  have y1 := e32.cell 1 rfl
  go_wp2_with fail
  refine (H3.out w2 (hg.below hB2)).mono ?_
  rintro e w3 ⟨_, rfl, rfl, hb3⟩
  have hB3 := hB2.trans (hb3.mono hB2.size)
  have d2 : decide (0 ≤ z2) = true := decide_eq_true h2
  clear hb3 hB2 e22 e32 x0 x1 x4 x5 y0 y1
  rcases Int.lt_or_le z3 0 with h3 | h3
  · have d3 : decide (0 ≤ z3) = false := decide_eq_false (by omega)
    go_wp2_with fail
    go_ret
    exact ⟨_, rfl, by rw [d1, d2, d3]; rfl, hB3⟩
  · have d3 : decide (0 ≤ z3) = true := decide_eq_true h3
    go_wp2_with fail
    go_ret
    exact ⟨_, rfl, by rw [d1, d2, d3]; rfl, hB3⟩

end Go.Proofs.YtccngnjkehibiaaGreatDoor
