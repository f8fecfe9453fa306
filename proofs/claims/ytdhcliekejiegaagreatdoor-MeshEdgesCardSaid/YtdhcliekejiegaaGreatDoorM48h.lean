/- klippelaw12.MeshEdges returns true: any sheet, any index. -/
import Derived.Test.YtdhcliekejiegaaGreatDoorM3
import Derived.Test.YtdhcliekejiegaaGreatDoorW1
import Derived.Test.YtdhcliekejiegaaGreatDoorM12
import Derived.Test.YtdhcliekejiegaaGreatDoorM4
import Derived.Test.YtdhcliekejiegaaGreatDoorM28
import Derived.Test.YtdhcliekejiegaaGreatDoorM24
import Derived.Test.YtdhcliekejiegaaGreatDoorM22
import Derived.Test.YtdhcliekejiegaaGreatDoorK3
import Derived.Test.YtdhcliekejiegaaGreatDoorM10
import Derived.Test.YtdhcliekejiegaaGreatDoorE5
import Derived.Laws.StructEq
namespace Go.Proofs.YtdhcliekejiegaaGreatDoor
open Go.RowKit Go.Lib

/-- The point of a cycle by its number. -/
def cycI (c : List Int) (i : Nat) : Int := c[i]?.getD 0
/-- It turns there. -/
def cornB (P : List PtQ) (c : List Int) (i : Nat) : Bool := decide (0 < turnZ (ptI P (cycI c ((i + c.length - 1) % c.length))) (ptI P (cycI c i)) (ptI P (cycI c ((i + 1) % c.length))))
def cornL (P : List PtQ) (c : List Int) : Nat → List Int
  | 0 => []
  | n + 1 => cornL P c n ++ if cornB P c n then [cycI c n] else []
theorem cornL_len (P : List PtQ) (c : List Int) (n : Nat) : (cornL P c n).length ≤ n := by
  induction n with
  | zero => exact Nat.le_refl _
  | succ n ih => unfold cornL; rw [List.length_append]; split <;> simp <;> omega
/-- Where a point of a cycle lies in memory. -/
theorem cyc_at {c : List Int} {n : Nat} (hr : ∀ x ∈ c, 0 ≤ x ∧ x < (n : Int)) {i : Nat} (hi : i < c.length) : ∃ q : Nat, cycI c i = (q : Int) ∧ q < n ∧ c[i]? = some (q : Int) := by
  have h := hr c[i] (List.getElem_mem hi)
  refine ⟨c[i].toNat, ?_, by omega, ?_⟩
  · unfold cycI; rw [List.getElem?_eq_getElem hi, Option.getD_some]; omega
  · rw [List.getElem?_eq_getElem hi]; congr 1; omega

set_option maxHeartbeats 4000000 in
set_option maxRecDepth 100000 in
theorem corners_ok (w : World) (vp vt : Value) (P : List PtQ) (T : List Tri) (k : Nat) (hp : RdP w vp (strP P)) (ht : RdT w vt T) (hm : MeshOK P T k) (hr : ∀ x ∈ outerL (keysOf T), 0 ≤ x ∧ x < (P.length : Int)) (hl : (outerL (keysOf T)).length ≤ 1000) (hBD : ∀ w', Below w.heap.size w w' → Good w' → Calls Tryz.prog 13 #[.agg #[vp, vt]] w' (Ret (fun r w2 => ∃ s, r = .tuple #[s, .int .i64 0] ∧ RdI .i64 w2 s (outerL (keysOf T)) ∧ FreshV w'.heap.size s) w')) (hg : Good w) :
    Calls Tryz.prog 14 #[.agg #[vp, vt]] w (Ret (fun r w' => ∃ v, r = .tuple #[v, .int .i64 0] ∧ RdI .i64 w' v (cornL P (outerL (keysOf T)) (outerL (keysOf T)).length)) w) := by
  obtain ⟨i0, hi, hz0, hz1, hz2⟩ := info_parts info_i64
  have HBD := Lib.hid hBD
  have hk0 := hm.kpos
  have hk2 := hm.klim
  have HSZ : Hid (∀ z : Int, 0 ≤ z → z < (P.length : Int) → SzP k (ptI P z)) := fun z h0 h1 => by
    obtain ⟨q, rfl⟩ : ∃ q : Nat, z = (q : Int) := ⟨z.toNat, by omega⟩
    rw [ptI_nat P q (by omega)]
    exact hm.sz _ (List.getElem_mem _)
  obtain ⟨c, hc⟩ : ∃ c, c = outerL (keysOf T) := ⟨_, rfl⟩
  rw [← hc] at HBD hr hl ⊢
  obtain ⟨pp, cp, rfl, -, -, hpc⟩ := hp.open
  obtain ⟨pt, ct, rfl, -, -, -⟩ := ht.open
  have HPC := Lib.hid hpc
  rw [strP_length] at *
  have HR := Lib.hid hr
  have hP4 := hm.plen
  clear hp ht hm hr hBD hc hpc
  go_enter Tryz.func14, Tryz.ntmps14
  go_wp2_with fail
  obtain ⟨W, hW⟩ : ∃ W, W = w.alloc (.cells #[.slice pp P.length cp, .slice pt T.length ct] 30) := ⟨_, rfl⟩
  have hB : Below w.heap.size w W := by rw [hW]; exact (Below.refl _ _).alloc (Nat.le_refl _) _
  have b1 : BoxN W w.heap.size 30 [.slice pp P.length cp, .slice pt T.length ct] := by rw [hW]; exact BoxN.new _ _ _ _ rfl
  rw [← hW]
  clear hW
  refine (HBD.out W hB (hg.below hB)).mono ?_
  rintro e w1 ⟨_, rfl, ⟨s, rfl, hs, -⟩, hb1⟩
  have hB1 := hB.trans (hb1.mono hB.size)
  have b11 := b1.below hb1 b1.lt
  obtain ⟨ps, cs, rfl, -, -, hsc⟩ := hs.open
  have HSC := Lib.hid hsc
  clear hb1 hB b1 hs hsc
  go_upto_region 7 with fail
  go_loopw [7, 22] (fun t7 t22 wr => ∃ i : Nat, t22 = .int .i64 i ∧ i ≤ c.length ∧ wr.ownsRow w1.heap.size 3 1 t7 (cornL P c i).length ((cornL P c i).map (Value.int .i64)) ∧ Below w1.heap.size w1 wr) (fun _ t22 _ => c.length - (RowKit.intOf t22).toNat)
  case atStart => exact ⟨0, rfl, Nat.zero_le _, World.ownsRow_nil _ _ _ _, Below.refl _ _⟩
  case round =>
    obtain ⟨i, rfl, hi', hown, hbr⟩ := hrel
    have hBr := hB1.trans (hbr.mono hB1.size)
    rcases Nat.lt_or_ge i c.length with h | h
    · have hn0 : 0 < c.length := by omega
      obtain ⟨bs, os, rfl, hbs, hcs⟩ := HSC.out (List.ne_nil_of_length_pos hn0)
      obtain ⟨jp, hjp⟩ : ∃ j : Nat, j = (i + c.length - 1) % c.length := ⟨_, rfl⟩
      obtain ⟨jn, hjn⟩ : ∃ j : Nat, j = (i + 1) % c.length := ⟨_, rfl⟩
      have hjpl : jp < c.length := by rw [hjp]; exact Nat.mod_lt _ hn0
      have hjnl : jn < c.length := by rw [hjn]; exact Nat.mod_lt _ hn0
      obtain ⟨q0, e0, l0, g0⟩ := cyc_at HR.out hjpl
      obtain ⟨q1, e1, l1, g1⟩ := cyc_at HR.out h
      obtain ⟨q2, e2, l2, g2⟩ := cyc_at HR.out hjnl
      have HST : Hid (cornL P c (i + 1) = cornL P c i ++ if 0 < turnZ P[q0] P[q1] P[q2] then [(q1 : Int)] else []) := by
        unfold Hid
        conv => lhs; unfold cornL
        unfold cornB
        rw [← hjp, ← hjn, e0, e1, e2, ptI_nat P q0 l0, ptI_nat P q1 l1, ptI_nat P q2 l2]
        simp only [decide_eq_true_eq]
      obtain ⟨bp, op, rfl, hbp, hcp⟩ := HPC.out (by intro e; have h2 := strP_length P; rw [e] at h2; simp at h2; omega)
      have cell_c : ∀ (j q : Nat), c[j]? = some (q : Int) → w1.cell? ⟨bs, os + j, none⟩ = some (.int .i64 (q : Int)) := fun j q hj => by
        obtain ⟨h1, h2⟩ := List.getElem?_eq_some_iff.1 hj
        rw [← h2]; exact hcs j h1
      have s0 := (hbr.cell (p := ⟨bs, os + jp, none⟩) hbs).trans (cell_c jp q0 g0)
      have s1 := (hbr.cell (p := ⟨bs, os + i, none⟩) hbs).trans (cell_c i q1 g1)
      have s2 := (hbr.cell (p := ⟨bs, os + jn, none⟩) hbs).trans (cell_c jn q2 g2)
      obtain ⟨a0, a1⟩ := hcp q0 (by rw [strP_length]; exact l0)
      obtain ⟨a2, a3⟩ := hcp q1 (by rw [strP_length]; exact l1)
      obtain ⟨a4, a5⟩ := hcp q2 (by rw [strP_length]; exact l2)
      rw [strP_get P q0 l0] at a0 a1
      rw [strP_get P q1 l1] at a2 a3
      rw [strP_get P q2 l2] at a4 a5
      dsimp only at a0 a1 a2 a3 a4 a5
      have k0 := (hBr.cell (p := ⟨bp, op + q0 * 2, none⟩) hbp).trans a0
      have k1 := (hBr.cell (p := ⟨bp, op + q0 * 2 + 1, none⟩) hbp).trans a1
      have k2 := (hBr.cell (p := ⟨bp, op + q1 * 2, none⟩) hbp).trans a2
      have k3 := (hBr.cell (p := ⟨bp, op + q1 * 2 + 1, none⟩) hbp).trans a3
      have k4 := (hBr.cell (p := ⟨bp, op + q2 * 2, none⟩) hbp).trans a4
      have k5 := (hBr.cell (p := ⟨bp, op + q2 * 2 + 1, none⟩) hbp).trans a5
      have z0 := HSZ.out (q0 : Int) (by omega) (by omega)
      have z1 := HSZ.out (q1 : Int) (by omega) (by omega)
      have z2 := HSZ.out (q2 : Int) (by omega) (by omega)
      rw [ptI_nat P q0 l0] at z0
      rw [ptI_nat P q1 l1] at z1
      rw [ptI_nat P q2 l2] at z2
      have f0 : (q0 : Int) < (P.length : Int) := by omega
      have f1 : (q1 : Int) < (P.length : Int) := by omega
      have f2 : (q2 : Int) < (P.length : Int) := by omega
      generalize P[q0] = p0 at *
      generalize P[q1] = p1 at *
      generalize P[q2] = p2 at *
      have HTZ : Hid (∀ w, Good w → Calls Tryz.prog 59 #[VP p0, VP p1, VP p2] w (Ret (fun r _ => r = .int .i64 (turnZ p0 p1 p2)) w)) := fun w hg => turn_any p0 p1 p2 k hk0 (by omega) z0 z1 z2 w hg
      unfold VP at HTZ
      have b1r := b11.below hbr b11.lt
      have m0 := b1r.cell 0 rfl
      have hl1 := b1r.lt
      have hbsr : bs < wr.heap.size := Nat.lt_of_lt_of_le hbs hbr.size
      have hbpr : bp < wr.heap.size := Nat.lt_of_lt_of_le hbp hBr.size
      have hgd : Good wr.drew := (hg.below hBr).drewN 1
      have hiz : (i : Int) < (c.length : Int) := by omega
      have hnz : ¬ (c.length : Int) = 0 := by omega
      have hnz2 : ¬ c.length = 0 := by omega
      have hnz3 : ¬ c = [] := fun e => hnz2 (by rw [e]; rfl)
      have hw1 : IntKind.i64.wrap ((i : Int) + (c.length : Int)) = (i : Int) + (c.length : Int) := IntWalk.i64_in _ (by omega)
      have hw2 : IntKind.i64.wrap ((i : Int) + (c.length : Int) - 1) = (i : Int) + (c.length : Int) - 1 := IntWalk.i64_in _ (by omega)
      have hw3 : IntKind.i64.wrap ((i : Int) + 1) = (i : Int) + 1 := IntWalk.i64_in _ (by omega)
      have hr1 : ((i : Int) + (c.length : Int) - 1).tmod (c.length : Int) = (jp : Int) := by
        rw [Int.tmod_eq_emod_of_nonneg (by omega), hjp, Int.natCast_emod, show ((i + c.length - 1 : Nat) : Int) = (i : Int) + (c.length : Int) - 1 by omega]
      have hr2 : ((i : Int) + 1).tmod (c.length : Int) = (jn : Int) := by
        rw [Int.tmod_eq_emod_of_nonneg (by omega), hjn, Int.natCast_emod]
        rfl
      have hw4 : IntKind.i64.wrap (jp : Int) = (jp : Int) := IntWalk.i64_in _ (by omega)
      have hw5 : IntKind.i64.wrap (jn : Int) = (jn : Int) := IntWalk.i64_in _ (by omega)
      have hjpz : (jp : Int) < (c.length : Int) := by omega
      have hjnz : (jn : Int) < (c.length : Int) := by omega
      clear hcs hcp cell_c a0 a1 a2 a3 a4 a5 e0 e1 e2 g0 g1 g2 hjp hjn z0 z1 z2
      go_upto_region 9 with fail
      go_region_held3 (fun w' => w'.cell? ⟨w.heap.size, 0, none⟩ = some (.slice (some ⟨bp, op, none⟩) P.length cp) ∧ w'.cell? ⟨bs, os + jp, none⟩ = some (.int .i64 (q0 : Int)) ∧ w'.cell? ⟨bs, os + jn, none⟩ = some (.int .i64 (q2 : Int)) ∧ w'.cell? ⟨bp, op + q0 * 2, none⟩ = some (.string (RS p0.1)) ∧ w'.cell? ⟨bp, op + q0 * 2 + 1, none⟩ = some (.string (RS p0.2)) ∧ w'.cell? ⟨bp, op + q1 * 2, none⟩ = some (.string (RS p1.1)) ∧ w'.cell? ⟨bp, op + q1 * 2 + 1, none⟩ = some (.string (RS p1.2)) ∧ w'.cell? ⟨bp, op + q2 * 2, none⟩ = some (.string (RS p2.1)) ∧ w'.cell? ⟨bp, op + q2 * 2 + 1, none⟩ = some (.string (RS p2.2)))
        (first | exact ⟨m0, s0, s2, k0, k1, k2, k3, k4, k5⟩ | exact ⟨p_1_0, p_1_1, p_1_2, p_1_3, p_1_4, p_1_5, p_1_6, p_1_7, p_1_8⟩)
        (first
        | (go_at_call 59; refine (HTZ.out _ hgd).mono ?_; rintro e pw1 ⟨_, rfl, rfl, pb1⟩
           have p_1_0 := (pb1.cell (p := ⟨w.heap.size, 0, none⟩) (by show w.heap.size < wr.heap.size; omega)).trans m0
           have p_1_1 := (pb1.cell (p := ⟨bs, os + jp, none⟩) (by show bs < wr.heap.size; omega)).trans s0
           have p_1_2 := (pb1.cell (p := ⟨bs, os + jn, none⟩) (by show bs < wr.heap.size; omega)).trans s2
           have p_1_3 := (pb1.cell (p := ⟨bp, op + q0 * 2, none⟩) (by show bp < wr.heap.size; omega)).trans k0
           have p_1_4 := (pb1.cell (p := ⟨bp, op + q0 * 2 + 1, none⟩) (by show bp < wr.heap.size; omega)).trans k1
           have p_1_5 := (pb1.cell (p := ⟨bp, op + q1 * 2, none⟩) (by show bp < wr.heap.size; omega)).trans k2
           have p_1_6 := (pb1.cell (p := ⟨bp, op + q1 * 2 + 1, none⟩) (by show bp < wr.heap.size; omega)).trans k3
           have p_1_7 := (pb1.cell (p := ⟨bp, op + q2 * 2, none⟩) (by show bp < wr.heap.size; omega)).trans k4
           have p_1_8 := (pb1.cell (p := ⟨bp, op + q2 * 2 + 1, none⟩) (by show bp < wr.heap.size; omega)).trans k5
           have ps1 : wr.heap.size ≤ pw1.heap.size := pb1.size
           have pg1 : Good pw1 := hgd.below pb1))
      have pB : Below wr.heap.size wr pw1 := ((below_drewN wr 1).trans (pb1.mono (by show wr.heap.size ≤ wr.heap.size; omega)))
      have hbq := hbr.trans (pB.mono hbr.size)
      have hownq := World.ownsRow.belowAll hown pB
      have hlen := cornL_len P c i
      obtain ⟨p7, c7, rfl⟩ := ownsRow_shape hownq
      clear hown pB m0 s0 s2 k0 k1 k2 k3 k4 k5 hgd b1r
      by_cases hzt : 0 < turnZ p0 p1 p2
      · have HN : Hid (cornL P c (i + 1) = cornL P c i ++ [(q1 : Int)]) := by unfold Hid; rw [HST.out, if_pos hzt]
        clear HST
        go_wp2_with (at_builtin; refine wpList_append_own _ rfl _ _ 42 rfl w1.heap.size 3 i0 (.int .i64 0) 1 8 Tryz.underlying42 hi hz0 hz1 hz2 rfl (by decide) _ _ _ rfl (hownq.alloc _) ⟨pw1.heap.size, 0, none⟩ 1 1 [.int .i64 (q1 : Int)] rfl rfl (cell_one_i64 _ _ _) (one_cell_i64 _) (by unfold maxLen; omega) (by omega) (by have := hbq.size; simp; omega) ?_
                     intro v2 w2 hown2 hgrow2 _
                     have hb2 : Below w1.heap.size w1 w2 := (hbq.alloc hbq.size _).grown hgrow2 (by have := hbq.size; simp; omega) (fun j hj => (hownq.lt j hj).1)
                     clear hgrow2)
        go_roundw
        case rel => exact ⟨i + 1, by go_num, by omega, by rw [HN.out, List.length_append, List.map_append]; exact hown2, hb2⟩
        case measure => simp [RowKit.intOf]; omega
      · have HN : Hid (cornL P c (i + 1) = cornL P c i) := by unfold Hid; rw [HST.out, if_neg hzt, List.append_nil]
        clear HST
        go_wp2_with fail
        go_roundw
        case rel => exact ⟨i + 1, by go_num, by omega, by rw [HN.out]; exact hownq, hbq⟩
        case measure => simp [RowKit.intOf]; omega
    · have hige : ¬ (i : Int) < (c.length : Int) := by omega
      have HI : Hid (i = c.length) := by unfold Hid; omega
      have HFIN : Hid (RdI .i64 wr u7 (cornL P c c.length)) := by
        have h : RdI .i64 wr u7 (cornL P c i) := RdC.of_owns hown
        rwa [HI.out] at h
      clear hown HI
      go_wp2_with fail
      go_ret2
      exact ⟨_, rfl, ⟨_, rfl, HFIN.out⟩, hBr⟩

end Go.Proofs.YtdhcliekejiegaaGreatDoor

namespace Go.Proofs.YtdhcliekejiegaaGreatDoor
open Go.RowKit Go.Lib

def dotQ (a b p : PtQ) : Rat := (p.1 - a.1) * (b.1 - a.1) + (p.2 - a.2) * (b.2 - a.2)
def betweenB (a b p : PtQ) : Bool := decide (0 ≤ dotQ a b p) && decide (0 ≤ dotQ b a p)

set_option maxHeartbeats 4000000 in
set_option maxRecDepth 100000 in
theorem between_any (a b p : PtQ) (k : Nat) (hk : 0 < k) (hk2 : k ≤ 1000) (ha : SzP k a) (hb : SzP k b) (hp : SzP k p) (w : World) (hg : Good w) :
    Calls Tryz.prog 61 #[VP a, VP b, VP p] w (Ret (fun r _ => r = .bool (betweenB a b p)) w) := by
  obtain ⟨W, hW, ⟨a0, a1⟩, ⟨b0, b1⟩, ⟨c0, c1⟩, hbW, hsz⟩ := three_boxes w a b p 59
  have hgW := hg.below hbW
  obtain ⟨ax, ay⟩ := a
  obtain ⟨bx, bY⟩ := b
  obtain ⟨px, py⟩ := p
  have HBB : Hid (betweenB (ax, ay) (bx, bY) (px, py) = (decide (0 ≤ (px - ax) * (bx - ax) + (py - ay) * (bY - ay)) && decide (0 ≤ (px - bx) * (ax - bx) + (py - bY) * (ay - bY)))) := rfl
  unfold VP
  dsimp only [SzP] at *
  have HA := Lib.hid ha
  have HB := Lib.hid hb
  have HP := Lib.hid hp
  have HW := Lib.hid hW
  clear hW ha hb hp
  have HS2 : ∀ x y : Rat, Sz k x → Sz k y → Sz (2 * k + 1) (x - y) := fun x y hx hy => (hx.sub hy).mono (by omega)
  have HM2 : ∀ x y : Rat, Sz (2 * k + 1) x → Sz (2 * k + 1) y → Sz (4 * k + 2) (x * y) := fun x y hx hy => (hx.mul hy).mono (by omega)
  rw [HBB.out]
  clear HBB
  go_enter Tryz.func61, Tryz.ntmps61
  have hgd : Good W.drew := hgW.drewN 1
  go_upto_region 1 with fail
  rw [← HW.out]
  go_region_held3 (fun w' => w'.cell? ⟨w.heap.size, 0, none⟩ = some (.string (RS ax)) ∧ w'.cell? ⟨w.heap.size, 1, none⟩ = some (.string (RS ay)) ∧ w'.cell? ⟨w.heap.size + 1, 0, none⟩ = some (.string (RS bx)) ∧ w'.cell? ⟨w.heap.size + 1, 1, none⟩ = some (.string (RS bY)) ∧ w'.cell? ⟨w.heap.size + 2, 0, none⟩ = some (.string (RS px)) ∧ w'.cell? ⟨w.heap.size + 2, 1, none⟩ = some (.string (RS py)))
    (first | exact ⟨a0, a1, b0, b1, c0, c1⟩ | exact ⟨p_1_0, p_1_1, p_1_2, p_1_3, p_1_4, p_1_5⟩ | exact ⟨p_2_0, p_2_1, p_2_2, p_2_3, p_2_4, p_2_5⟩ | exact ⟨p_3_0, p_3_1, p_3_2, p_3_3, p_3_4, p_3_5⟩ | exact ⟨p_4_0, p_4_1, p_4_2, p_4_3, p_4_4, p_4_5⟩ | exact ⟨p_5_0, p_5_1, p_5_2, p_5_3, p_5_4, p_5_5⟩ | exact ⟨p_6_0, p_6_1, p_6_2, p_6_3, p_6_4, p_6_5⟩ | exact ⟨p_7_0, p_7_1, p_7_2, p_7_3, p_7_4, p_7_5⟩)
    (first
    | (go_at_call 49; refine (ratAdd_any ((px - ax) * (bx - ax)) ((py - ay) * (bY - ay)) (4 * k + 2) (by omega) (by omega) (HM2 _ _ (HS2 px ax HP.out.1 HA.out.1) (HS2 bx ax HB.out.1 HA.out.1)) (HM2 _ _ (HS2 py ay HP.out.2 HA.out.2) (HS2 bY ay HB.out.2 HA.out.2)) _ pg6).mono ?_; rintro e pw7 ⟨_, rfl, rfl, pb7⟩
       have p_7_0 := (pb7.cell (p := ⟨w.heap.size, 0, none⟩) (by show w.heap.size < pw6.heap.size; omega)).trans p_6_0
       have p_7_1 := (pb7.cell (p := ⟨w.heap.size, 1, none⟩) (by show w.heap.size < pw6.heap.size; omega)).trans p_6_1
       have p_7_2 := (pb7.cell (p := ⟨w.heap.size + 1, 0, none⟩) (by show w.heap.size + 1 < pw6.heap.size; omega)).trans p_6_2
       have p_7_3 := (pb7.cell (p := ⟨w.heap.size + 1, 1, none⟩) (by show w.heap.size + 1 < pw6.heap.size; omega)).trans p_6_3
       have p_7_4 := (pb7.cell (p := ⟨w.heap.size + 2, 0, none⟩) (by show w.heap.size + 2 < pw6.heap.size; omega)).trans p_6_4
       have p_7_5 := (pb7.cell (p := ⟨w.heap.size + 2, 1, none⟩) (by show w.heap.size + 2 < pw6.heap.size; omega)).trans p_6_5
       have ps7 : pw6.heap.size ≤ pw7.heap.size := pb7.size
       have pg7 : Good pw7 := pg6.below pb7)
    | (go_at_call 88; refine (ratMul_any (py - ay) (bY - ay) (2 * k + 1) (by omega) (by omega) (HS2 py ay HP.out.2 HA.out.2) (HS2 bY ay HB.out.2 HA.out.2) _ pg5).mono ?_; rintro e pw6 ⟨_, rfl, rfl, pb6⟩
       have p_6_0 := (pb6.cell (p := ⟨w.heap.size, 0, none⟩) (by show w.heap.size < pw5.heap.size; omega)).trans p_5_0
       have p_6_1 := (pb6.cell (p := ⟨w.heap.size, 1, none⟩) (by show w.heap.size < pw5.heap.size; omega)).trans p_5_1
       have p_6_2 := (pb6.cell (p := ⟨w.heap.size + 1, 0, none⟩) (by show w.heap.size + 1 < pw5.heap.size; omega)).trans p_5_2
       have p_6_3 := (pb6.cell (p := ⟨w.heap.size + 1, 1, none⟩) (by show w.heap.size + 1 < pw5.heap.size; omega)).trans p_5_3
       have p_6_4 := (pb6.cell (p := ⟨w.heap.size + 2, 0, none⟩) (by show w.heap.size + 2 < pw5.heap.size; omega)).trans p_5_4
       have p_6_5 := (pb6.cell (p := ⟨w.heap.size + 2, 1, none⟩) (by show w.heap.size + 2 < pw5.heap.size; omega)).trans p_5_5
       have ps6 : pw5.heap.size ≤ pw6.heap.size := pb6.size
       have pg6 : Good pw6 := pg5.below pb6)
    | (go_at_call 102; refine (ratSub_any bY ay k hk (by omega) HB.out.2 HA.out.2 _ pg4).mono ?_; rintro e pw5 ⟨_, rfl, rfl, pb5⟩
       have p_5_0 := (pb5.cell (p := ⟨w.heap.size, 0, none⟩) (by show w.heap.size < pw4.heap.size; omega)).trans p_4_0
       have p_5_1 := (pb5.cell (p := ⟨w.heap.size, 1, none⟩) (by show w.heap.size < pw4.heap.size; omega)).trans p_4_1
       have p_5_2 := (pb5.cell (p := ⟨w.heap.size + 1, 0, none⟩) (by show w.heap.size + 1 < pw4.heap.size; omega)).trans p_4_2
       have p_5_3 := (pb5.cell (p := ⟨w.heap.size + 1, 1, none⟩) (by show w.heap.size + 1 < pw4.heap.size; omega)).trans p_4_3
       have p_5_4 := (pb5.cell (p := ⟨w.heap.size + 2, 0, none⟩) (by show w.heap.size + 2 < pw4.heap.size; omega)).trans p_4_4
       have p_5_5 := (pb5.cell (p := ⟨w.heap.size + 2, 1, none⟩) (by show w.heap.size + 2 < pw4.heap.size; omega)).trans p_4_5
       have ps5 : pw4.heap.size ≤ pw5.heap.size := pb5.size
       have pg5 : Good pw5 := pg4.below pb5)
    | (go_at_call 102; refine (ratSub_any py ay k hk (by omega) HP.out.2 HA.out.2 _ pg3).mono ?_; rintro e pw4 ⟨_, rfl, rfl, pb4⟩
       have p_4_0 := (pb4.cell (p := ⟨w.heap.size, 0, none⟩) (by show w.heap.size < pw3.heap.size; omega)).trans p_3_0
       have p_4_1 := (pb4.cell (p := ⟨w.heap.size, 1, none⟩) (by show w.heap.size < pw3.heap.size; omega)).trans p_3_1
       have p_4_2 := (pb4.cell (p := ⟨w.heap.size + 1, 0, none⟩) (by show w.heap.size + 1 < pw3.heap.size; omega)).trans p_3_2
       have p_4_3 := (pb4.cell (p := ⟨w.heap.size + 1, 1, none⟩) (by show w.heap.size + 1 < pw3.heap.size; omega)).trans p_3_3
       have p_4_4 := (pb4.cell (p := ⟨w.heap.size + 2, 0, none⟩) (by show w.heap.size + 2 < pw3.heap.size; omega)).trans p_3_4
       have p_4_5 := (pb4.cell (p := ⟨w.heap.size + 2, 1, none⟩) (by show w.heap.size + 2 < pw3.heap.size; omega)).trans p_3_5
       have ps4 : pw3.heap.size ≤ pw4.heap.size := pb4.size
       have pg4 : Good pw4 := pg3.below pb4)
    | (go_at_call 88; refine (ratMul_any (px - ax) (bx - ax) (2 * k + 1) (by omega) (by omega) (HS2 px ax HP.out.1 HA.out.1) (HS2 bx ax HB.out.1 HA.out.1) _ pg2).mono ?_; rintro e pw3 ⟨_, rfl, rfl, pb3⟩
       have p_3_0 := (pb3.cell (p := ⟨w.heap.size, 0, none⟩) (by show w.heap.size < pw2.heap.size; omega)).trans p_2_0
       have p_3_1 := (pb3.cell (p := ⟨w.heap.size, 1, none⟩) (by show w.heap.size < pw2.heap.size; omega)).trans p_2_1
       have p_3_2 := (pb3.cell (p := ⟨w.heap.size + 1, 0, none⟩) (by show w.heap.size + 1 < pw2.heap.size; omega)).trans p_2_2
       have p_3_3 := (pb3.cell (p := ⟨w.heap.size + 1, 1, none⟩) (by show w.heap.size + 1 < pw2.heap.size; omega)).trans p_2_3
       have p_3_4 := (pb3.cell (p := ⟨w.heap.size + 2, 0, none⟩) (by show w.heap.size + 2 < pw2.heap.size; omega)).trans p_2_4
       have p_3_5 := (pb3.cell (p := ⟨w.heap.size + 2, 1, none⟩) (by show w.heap.size + 2 < pw2.heap.size; omega)).trans p_2_5
       have ps3 : pw2.heap.size ≤ pw3.heap.size := pb3.size
       have pg3 : Good pw3 := pg2.below pb3)
    | (go_at_call 102; refine (ratSub_any bx ax k hk (by omega) HB.out.1 HA.out.1 _ pg1).mono ?_; rintro e pw2 ⟨_, rfl, rfl, pb2⟩
       have p_2_0 := (pb2.cell (p := ⟨w.heap.size, 0, none⟩) (by show w.heap.size < pw1.heap.size; omega)).trans p_1_0
       have p_2_1 := (pb2.cell (p := ⟨w.heap.size, 1, none⟩) (by show w.heap.size < pw1.heap.size; omega)).trans p_1_1
       have p_2_2 := (pb2.cell (p := ⟨w.heap.size + 1, 0, none⟩) (by show w.heap.size + 1 < pw1.heap.size; omega)).trans p_1_2
       have p_2_3 := (pb2.cell (p := ⟨w.heap.size + 1, 1, none⟩) (by show w.heap.size + 1 < pw1.heap.size; omega)).trans p_1_3
       have p_2_4 := (pb2.cell (p := ⟨w.heap.size + 2, 0, none⟩) (by show w.heap.size + 2 < pw1.heap.size; omega)).trans p_1_4
       have p_2_5 := (pb2.cell (p := ⟨w.heap.size + 2, 1, none⟩) (by show w.heap.size + 2 < pw1.heap.size; omega)).trans p_1_5
       have ps2 : pw1.heap.size ≤ pw2.heap.size := pb2.size
       have pg2 : Good pw2 := pg1.below pb2)
    | (go_at_call 102; refine (ratSub_any px ax k hk (by omega) HP.out.1 HA.out.1 _ hgd).mono ?_; rintro e pw1 ⟨_, rfl, rfl, pb1⟩
       have p_1_0 := (pb1.cell (p := ⟨w.heap.size, 0, none⟩) (by show w.heap.size < W.heap.size; omega)).trans a0
       have p_1_1 := (pb1.cell (p := ⟨w.heap.size, 1, none⟩) (by show w.heap.size < W.heap.size; omega)).trans a1
       have p_1_2 := (pb1.cell (p := ⟨w.heap.size + 1, 0, none⟩) (by show w.heap.size + 1 < W.heap.size; omega)).trans b0
       have p_1_3 := (pb1.cell (p := ⟨w.heap.size + 1, 1, none⟩) (by show w.heap.size + 1 < W.heap.size; omega)).trans b1
       have p_1_4 := (pb1.cell (p := ⟨w.heap.size + 2, 0, none⟩) (by show w.heap.size + 2 < W.heap.size; omega)).trans c0
       have p_1_5 := (pb1.cell (p := ⟨w.heap.size + 2, 1, none⟩) (by show w.heap.size + 2 < W.heap.size; omega)).trans c1
       have ps1 : W.heap.size ≤ pw1.heap.size := pb1.size
       have pg1 : Good pw1 := hgd.below pb1))
  have pB : Below W.heap.size W pw7 := ((((((((below_drewN W 1).trans (pb1.mono (by show W.heap.size ≤ W.heap.size; omega))).trans (pb2.mono (by show W.heap.size ≤ pw1.heap.size; omega))).trans (pb3.mono (by show W.heap.size ≤ pw2.heap.size; omega))).trans (pb4.mono (by show W.heap.size ≤ pw3.heap.size; omega))).trans (pb5.mono (by show W.heap.size ≤ pw4.heap.size; omega))).trans (pb6.mono (by show W.heap.size ≤ pw5.heap.size; omega))).trans (pb7.mono (by show W.heap.size ≤ pw6.heap.size; omega)))
  have d_a0 := (pB.cell (p := ⟨w.heap.size, 0, none⟩) (by show w.heap.size < W.heap.size; omega)).trans a0
  have d_a1 := (pB.cell (p := ⟨w.heap.size, 1, none⟩) (by show w.heap.size < W.heap.size; omega)).trans a1
  have d_b0 := (pB.cell (p := ⟨w.heap.size + 1, 0, none⟩) (by show w.heap.size + 1 < W.heap.size; omega)).trans b0
  have d_b1 := (pB.cell (p := ⟨w.heap.size + 1, 1, none⟩) (by show w.heap.size + 1 < W.heap.size; omega)).trans b1
  have d_c0 := (pB.cell (p := ⟨w.heap.size + 2, 0, none⟩) (by show w.heap.size + 2 < W.heap.size; omega)).trans c0
  have d_c1 := (pB.cell (p := ⟨w.heap.size + 2, 1, none⟩) (by show w.heap.size + 2 < W.heap.size; omega)).trans c1
  have hB7 := hbW.trans (pB.mono hbW.size)
  have hsz7 : w.heap.size + 2 < pw7.heap.size := by have := pB.size; omega
  obtain ⟨V, hV⟩ : ∃ V, V = pw7 := ⟨_, rfl⟩
  rw [← hV] at d_a0 d_a1 d_b0 d_b1 d_c0 d_c1 hB7 hsz7
  have hgd7 : Good V.drew := (hg.below hB7).drewN 1
  rw [← hV]
  clear hV pB pg1 pg2 pg3 pg4 pg5 pg6 pg7 a0 a1 b0 b1 c0 c1 hgd
  go_upto_region 2 with fail
  go_region_held3 (fun w' => w'.cell? ⟨w.heap.size, 0, none⟩ = some (.string (RS ax)) ∧ w'.cell? ⟨w.heap.size, 1, none⟩ = some (.string (RS ay)) ∧ w'.cell? ⟨w.heap.size + 1, 0, none⟩ = some (.string (RS bx)) ∧ w'.cell? ⟨w.heap.size + 1, 1, none⟩ = some (.string (RS bY)) ∧ w'.cell? ⟨w.heap.size + 2, 0, none⟩ = some (.string (RS px)) ∧ w'.cell? ⟨w.heap.size + 2, 1, none⟩ = some (.string (RS py)))
    (first | exact ⟨d_a0, d_a1, d_b0, d_b1, d_c0, d_c1⟩ | exact ⟨q_1_0, q_1_1, q_1_2, q_1_3, q_1_4, q_1_5⟩ | exact ⟨q_2_0, q_2_1, q_2_2, q_2_3, q_2_4, q_2_5⟩ | exact ⟨q_3_0, q_3_1, q_3_2, q_3_3, q_3_4, q_3_5⟩ | exact ⟨q_4_0, q_4_1, q_4_2, q_4_3, q_4_4, q_4_5⟩ | exact ⟨q_5_0, q_5_1, q_5_2, q_5_3, q_5_4, q_5_5⟩ | exact ⟨q_6_0, q_6_1, q_6_2, q_6_3, q_6_4, q_6_5⟩ | exact ⟨q_7_0, q_7_1, q_7_2, q_7_3, q_7_4, q_7_5⟩)
    (first
    | (go_at_call 49; refine (ratAdd_any ((px - bx) * (ax - bx)) ((py - bY) * (ay - bY)) (4 * k + 2) (by omega) (by omega) (HM2 _ _ (HS2 px bx HP.out.1 HB.out.1) (HS2 ax bx HA.out.1 HB.out.1)) (HM2 _ _ (HS2 py bY HP.out.2 HB.out.2) (HS2 ay bY HA.out.2 HB.out.2)) _ qg6).mono ?_; rintro e qw7 ⟨_, rfl, rfl, qb7⟩
       have q_7_0 := (qb7.cell (p := ⟨w.heap.size, 0, none⟩) (by show w.heap.size < qw6.heap.size; omega)).trans q_6_0
       have q_7_1 := (qb7.cell (p := ⟨w.heap.size, 1, none⟩) (by show w.heap.size < qw6.heap.size; omega)).trans q_6_1
       have q_7_2 := (qb7.cell (p := ⟨w.heap.size + 1, 0, none⟩) (by show w.heap.size + 1 < qw6.heap.size; omega)).trans q_6_2
       have q_7_3 := (qb7.cell (p := ⟨w.heap.size + 1, 1, none⟩) (by show w.heap.size + 1 < qw6.heap.size; omega)).trans q_6_3
       have q_7_4 := (qb7.cell (p := ⟨w.heap.size + 2, 0, none⟩) (by show w.heap.size + 2 < qw6.heap.size; omega)).trans q_6_4
       have q_7_5 := (qb7.cell (p := ⟨w.heap.size + 2, 1, none⟩) (by show w.heap.size + 2 < qw6.heap.size; omega)).trans q_6_5
       have qs7 : qw6.heap.size ≤ qw7.heap.size := qb7.size
       have qg7 : Good qw7 := qg6.below qb7)
    | (go_at_call 88; refine (ratMul_any (py - bY) (ay - bY) (2 * k + 1) (by omega) (by omega) (HS2 py bY HP.out.2 HB.out.2) (HS2 ay bY HA.out.2 HB.out.2) _ qg5).mono ?_; rintro e qw6 ⟨_, rfl, rfl, qb6⟩
       have q_6_0 := (qb6.cell (p := ⟨w.heap.size, 0, none⟩) (by show w.heap.size < qw5.heap.size; omega)).trans q_5_0
       have q_6_1 := (qb6.cell (p := ⟨w.heap.size, 1, none⟩) (by show w.heap.size < qw5.heap.size; omega)).trans q_5_1
       have q_6_2 := (qb6.cell (p := ⟨w.heap.size + 1, 0, none⟩) (by show w.heap.size + 1 < qw5.heap.size; omega)).trans q_5_2
       have q_6_3 := (qb6.cell (p := ⟨w.heap.size + 1, 1, none⟩) (by show w.heap.size + 1 < qw5.heap.size; omega)).trans q_5_3
       have q_6_4 := (qb6.cell (p := ⟨w.heap.size + 2, 0, none⟩) (by show w.heap.size + 2 < qw5.heap.size; omega)).trans q_5_4
       have q_6_5 := (qb6.cell (p := ⟨w.heap.size + 2, 1, none⟩) (by show w.heap.size + 2 < qw5.heap.size; omega)).trans q_5_5
       have qs6 : qw5.heap.size ≤ qw6.heap.size := qb6.size
       have qg6 : Good qw6 := qg5.below qb6)
    | (go_at_call 102; refine (ratSub_any ay bY k hk (by omega) HA.out.2 HB.out.2 _ qg4).mono ?_; rintro e qw5 ⟨_, rfl, rfl, qb5⟩
       have q_5_0 := (qb5.cell (p := ⟨w.heap.size, 0, none⟩) (by show w.heap.size < qw4.heap.size; omega)).trans q_4_0
       have q_5_1 := (qb5.cell (p := ⟨w.heap.size, 1, none⟩) (by show w.heap.size < qw4.heap.size; omega)).trans q_4_1
       have q_5_2 := (qb5.cell (p := ⟨w.heap.size + 1, 0, none⟩) (by show w.heap.size + 1 < qw4.heap.size; omega)).trans q_4_2
       have q_5_3 := (qb5.cell (p := ⟨w.heap.size + 1, 1, none⟩) (by show w.heap.size + 1 < qw4.heap.size; omega)).trans q_4_3
       have q_5_4 := (qb5.cell (p := ⟨w.heap.size + 2, 0, none⟩) (by show w.heap.size + 2 < qw4.heap.size; omega)).trans q_4_4
       have q_5_5 := (qb5.cell (p := ⟨w.heap.size + 2, 1, none⟩) (by show w.heap.size + 2 < qw4.heap.size; omega)).trans q_4_5
       have qs5 : qw4.heap.size ≤ qw5.heap.size := qb5.size
       have qg5 : Good qw5 := qg4.below qb5)
    | (go_at_call 102; refine (ratSub_any py bY k hk (by omega) HP.out.2 HB.out.2 _ qg3).mono ?_; rintro e qw4 ⟨_, rfl, rfl, qb4⟩
       have q_4_0 := (qb4.cell (p := ⟨w.heap.size, 0, none⟩) (by show w.heap.size < qw3.heap.size; omega)).trans q_3_0
       have q_4_1 := (qb4.cell (p := ⟨w.heap.size, 1, none⟩) (by show w.heap.size < qw3.heap.size; omega)).trans q_3_1
       have q_4_2 := (qb4.cell (p := ⟨w.heap.size + 1, 0, none⟩) (by show w.heap.size + 1 < qw3.heap.size; omega)).trans q_3_2
       have q_4_3 := (qb4.cell (p := ⟨w.heap.size + 1, 1, none⟩) (by show w.heap.size + 1 < qw3.heap.size; omega)).trans q_3_3
       have q_4_4 := (qb4.cell (p := ⟨w.heap.size + 2, 0, none⟩) (by show w.heap.size + 2 < qw3.heap.size; omega)).trans q_3_4
       have q_4_5 := (qb4.cell (p := ⟨w.heap.size + 2, 1, none⟩) (by show w.heap.size + 2 < qw3.heap.size; omega)).trans q_3_5
       have qs4 : qw3.heap.size ≤ qw4.heap.size := qb4.size
       have qg4 : Good qw4 := qg3.below qb4)
    | (go_at_call 88; refine (ratMul_any (px - bx) (ax - bx) (2 * k + 1) (by omega) (by omega) (HS2 px bx HP.out.1 HB.out.1) (HS2 ax bx HA.out.1 HB.out.1) _ qg2).mono ?_; rintro e qw3 ⟨_, rfl, rfl, qb3⟩
       have q_3_0 := (qb3.cell (p := ⟨w.heap.size, 0, none⟩) (by show w.heap.size < qw2.heap.size; omega)).trans q_2_0
       have q_3_1 := (qb3.cell (p := ⟨w.heap.size, 1, none⟩) (by show w.heap.size < qw2.heap.size; omega)).trans q_2_1
       have q_3_2 := (qb3.cell (p := ⟨w.heap.size + 1, 0, none⟩) (by show w.heap.size + 1 < qw2.heap.size; omega)).trans q_2_2
       have q_3_3 := (qb3.cell (p := ⟨w.heap.size + 1, 1, none⟩) (by show w.heap.size + 1 < qw2.heap.size; omega)).trans q_2_3
       have q_3_4 := (qb3.cell (p := ⟨w.heap.size + 2, 0, none⟩) (by show w.heap.size + 2 < qw2.heap.size; omega)).trans q_2_4
       have q_3_5 := (qb3.cell (p := ⟨w.heap.size + 2, 1, none⟩) (by show w.heap.size + 2 < qw2.heap.size; omega)).trans q_2_5
       have qs3 : qw2.heap.size ≤ qw3.heap.size := qb3.size
       have qg3 : Good qw3 := qg2.below qb3)
    | (go_at_call 102; refine (ratSub_any ax bx k hk (by omega) HA.out.1 HB.out.1 _ qg1).mono ?_; rintro e qw2 ⟨_, rfl, rfl, qb2⟩
       have q_2_0 := (qb2.cell (p := ⟨w.heap.size, 0, none⟩) (by show w.heap.size < qw1.heap.size; omega)).trans q_1_0
       have q_2_1 := (qb2.cell (p := ⟨w.heap.size, 1, none⟩) (by show w.heap.size < qw1.heap.size; omega)).trans q_1_1
       have q_2_2 := (qb2.cell (p := ⟨w.heap.size + 1, 0, none⟩) (by show w.heap.size + 1 < qw1.heap.size; omega)).trans q_1_2
       have q_2_3 := (qb2.cell (p := ⟨w.heap.size + 1, 1, none⟩) (by show w.heap.size + 1 < qw1.heap.size; omega)).trans q_1_3
       have q_2_4 := (qb2.cell (p := ⟨w.heap.size + 2, 0, none⟩) (by show w.heap.size + 2 < qw1.heap.size; omega)).trans q_1_4
       have q_2_5 := (qb2.cell (p := ⟨w.heap.size + 2, 1, none⟩) (by show w.heap.size + 2 < qw1.heap.size; omega)).trans q_1_5
       have qs2 : qw1.heap.size ≤ qw2.heap.size := qb2.size
       have qg2 : Good qw2 := qg1.below qb2)
    | (go_at_call 102; refine (ratSub_any px bx k hk (by omega) HP.out.1 HB.out.1 _ hgd7).mono ?_; rintro e qw1 ⟨_, rfl, rfl, qb1⟩
       have q_1_0 := (qb1.cell (p := ⟨w.heap.size, 0, none⟩) (by show w.heap.size < V.heap.size; omega)).trans d_a0
       have q_1_1 := (qb1.cell (p := ⟨w.heap.size, 1, none⟩) (by show w.heap.size < V.heap.size; omega)).trans d_a1
       have q_1_2 := (qb1.cell (p := ⟨w.heap.size + 1, 0, none⟩) (by show w.heap.size + 1 < V.heap.size; omega)).trans d_b0
       have q_1_3 := (qb1.cell (p := ⟨w.heap.size + 1, 1, none⟩) (by show w.heap.size + 1 < V.heap.size; omega)).trans d_b1
       have q_1_4 := (qb1.cell (p := ⟨w.heap.size + 2, 0, none⟩) (by show w.heap.size + 2 < V.heap.size; omega)).trans d_c0
       have q_1_5 := (qb1.cell (p := ⟨w.heap.size + 2, 1, none⟩) (by show w.heap.size + 2 < V.heap.size; omega)).trans d_c1
       have qs1 : V.heap.size ≤ qw1.heap.size := qb1.size
       have qg1 : Good qw1 := hgd7.below qb1))
  have qB : Below V.heap.size V qw7 := ((((((((below_drewN V 1).trans (qb1.mono (by show V.heap.size ≤ V.heap.size; omega))).trans (qb2.mono (by show V.heap.size ≤ qw1.heap.size; omega))).trans (qb3.mono (by show V.heap.size ≤ qw2.heap.size; omega))).trans (qb4.mono (by show V.heap.size ≤ qw3.heap.size; omega))).trans (qb5.mono (by show V.heap.size ≤ qw4.heap.size; omega))).trans (qb6.mono (by show V.heap.size ≤ qw5.heap.size; omega))).trans (qb7.mono (by show V.heap.size ≤ qw6.heap.size; omega)))
  have hB8 := hB7.trans (qB.mono hB7.size)
  clear d_a0 d_a1 d_b0 d_b1 d_c0 d_c1 hgd7
  go_wp2_with fail
  by_cases h1 : ((px - ax) * (bx - ax) + (py - ay) * (bY - ay)) < 0
  · have H1 : Hid (Value.bool false = Value.bool (decide (0 ≤ ((px - ax) * (bx - ax) + (py - ay) * (bY - ay))) && decide (0 ≤ ((px - bx) * (ax - bx) + (py - bY) * (ay - bY))))) := by unfold Hid; rw [decide_eq_false (Rat.not_le.2 h1), Bool.false_and]
    refine (ratSign_neg ((px - ax) * (bx - ax) + (py - ay) * (bY - ay)) h1 _).mono ?_
    rintro e w8 ⟨_, rfl, rfl, hb8⟩
    have hB9 := hB8.trans (hb8.mono hB8.size)
    clear h1
    go_wp2_with fail
    go_ret
    exact ⟨_, rfl, H1.out, hB9⟩
  · have H1 : Hid (0 ≤ ((px - ax) * (bx - ax) + (py - ay) * (bY - ay))) := Rat.not_lt.1 h1
    refine (ratSign_nn ((px - ax) * (bx - ax) + (py - ay) * (bY - ay)) h1 _).mono ?_
    rintro e w8 ⟨_, rfl, ⟨z, rfl, hz0, hz1⟩, hb8⟩
    have hB9 := hB8.trans (hb8.mono hB8.size)
    have hzd : decide (0 ≤ z) = true := decide_eq_true hz0
    clear h1
    go_wp2_with fail
    by_cases h2 : ((px - bx) * (ax - bx) + (py - bY) * (ay - bY)) < 0
    · have H2 : Hid (Value.bool false = Value.bool (decide (0 ≤ ((px - ax) * (bx - ax) + (py - ay) * (bY - ay))) && decide (0 ≤ ((px - bx) * (ax - bx) + (py - bY) * (ay - bY))))) := by unfold Hid; rw [decide_eq_false (Rat.not_le.2 h2), Bool.and_false]
      refine (ratSign_neg ((px - bx) * (ax - bx) + (py - bY) * (ay - bY)) h2 _).mono ?_
      rintro e w9 ⟨_, rfl, rfl, hb9⟩
      have hB10 := hB9.trans (hb9.mono hB9.size)
      clear h2
      go_wp2_with fail
      go_ret
      exact ⟨_, rfl, H2.out, hB10⟩
    · have H2 : Hid (Value.bool true = Value.bool (decide (0 ≤ ((px - ax) * (bx - ax) + (py - ay) * (bY - ay))) && decide (0 ≤ ((px - bx) * (ax - bx) + (py - bY) * (ay - bY))))) := by unfold Hid; rw [decide_eq_true (Rat.not_lt.1 h2), decide_eq_true H1.out]; rfl
      refine (ratSign_nn ((px - bx) * (ax - bx) + (py - bY) * (ay - bY)) h2 _).mono ?_
      rintro e w9 ⟨_, rfl, ⟨y, rfl, hy0, hy1⟩, hb9⟩
      have hB10 := hB9.trans (hb9.mono hB9.size)
      have hyd : decide (0 ≤ y) = true := decide_eq_true hy0
      clear h2
      go_wp2_with fail
      go_ret
      exact ⟨_, rfl, H2.out, hB10⟩

end Go.Proofs.YtdhcliekejiegaaGreatDoor

namespace Go.Proofs.YtdhcliekejiegaaGreatDoor
open Go.RowKit Go.Lib

theorem checkTriangle_range (w : World) (vp vt : Value) (P : List PtQ) (T : List Tri) (k : Nat) (hp : RdP w vp (strP P)) (ht : RdT w vt T) (hm : MeshOK P T k) (tz : Int) (htz : tz < 0 ∨ (T.length : Int) ≤ tz) (hg : Good w) :
    Calls Tryz.prog 56 #[.agg #[vp, vt], .int .i64 tz] w (Ret (fun r _ => r = .int .i64 3) w) := by
  have HCK : Hid (∀ w', Below w.heap.size w w' → Good w' → Calls Tryz.prog 47 #[.agg #[vp, vt]] w' (Ret (fun r _ => r = .int .i64 0) w')) := fun w' hb hg' => check_any w' vp vt P T k (RdC.below hp hb) (RdC.below ht hb) hm hg'
  obtain ⟨pp, cp, rfl, -, -, -⟩ := hp.open
  obtain ⟨pt, ct, rfl, -, -, -⟩ := ht.open
  clear hp ht hm
  rcases htz with htz | htz
  all_goals
    go_enter Tryz.func56, Tryz.ntmps56
    go_wp2_with fail
    obtain ⟨W, hW⟩ : ∃ W, W = w.alloc (.cells #[.slice pp (strP P).length cp, .slice pt T.length ct] 30) := ⟨_, rfl⟩
    have hB : Below w.heap.size w W := by rw [hW]; exact (Below.refl _ _).alloc (Nat.le_refl _) _
    have b0 : BoxN W w.heap.size 30 [.slice pp (strP P).length cp, .slice pt T.length ct] := by rw [hW]; exact BoxN.new _ _ _ _ rfl
    rw [← hW]
    clear hW
    refine (HCK.out W hB (hg.below hB)).mono ?_
    rintro e w1 ⟨_, rfl, rfl, hb1⟩
    have hB1 := hB.trans (hb1.mono hB.size)
    have b1 := b0.below hb1 b0.lt
    have x1 := b1.cell 1 rfl
    clear hb1 hB b0 b1
    go_wp2_with fail
    go_ret
    exact ⟨_, rfl, rfl, hB1⟩

/-! ### plain: the shares add up -/
end Go.Proofs.YtdhcliekejiegaaGreatDoor

namespace Go.Proofs.YtdhcliekejiegaaGreatDoor
open Go.RowKit Go.Lib

def sumA (P : List PtQ) (T : List Tri) : Nat → Rat
  | 0 => 0
  | n + 1 => sumA P T n + (match T[n]? with | some t => areaQ (ptI P t.1) (ptI P t.2.1) (ptI P t.2.2) | none => 0)
theorem sumA_succ {P : List PtQ} {T : List Tri} {n : Nat} {t : Tri} (h : T[n]? = some t) : sumA P T (n + 1) = sumA P T n + areaQ (ptI P t.1) (ptI P t.2.1) (ptI P t.2.2) := by
  conv => lhs; unfold sumA
  rw [h]
theorem sumA_Sz {P : List PtQ} {T : List Tri} {k : Nat} (hm : MeshOK P T k) (n : Nat) : Sz ((8 * k + 6) * n + 1) (sumA P T n) := by
  induction n with
  | zero => exact (Sz.zero 1 (by omega)).mono (by omega)
  | succ n ih =>
    unfold sumA
    cases h : T[n]? with
    | none =>
      dsimp only
      rw [Rat.add_zero]
      exact ih.mono (by rw [Nat.mul_add]; omega)
    | some t =>
      obtain ⟨z0, z1, z2⟩ := ptI_SzP hm (List.mem_of_getElem? h)
      exact (ih.add (areaQ_Sz z0 z1 z2)).mono (by rw [Nat.mul_add]; omega)

set_option maxHeartbeats 2000000 in
set_option maxRecDepth 100000 in
theorem marea_ok (w : World) (vp vt : Value) (P : List PtQ) (T : List Tri) (k : Nat) (hp : RdP w vp (strP P)) (ht : RdT w vt T) (hm : MeshOK P T k) (h6 : (8 * k + 6) * T.length + 1 ≤ 200) (hg : Good w) :
    Calls Tryz.prog 10 #[.agg #[vp, vt]] w (Ret (fun r _ => r = .tuple #[.string (RS (sumA P T T.length)), .int .i64 0]) w) := by
  have HCK : Hid (∀ w', Below w.heap.size w w' → Good w' → Calls Tryz.prog 47 #[.agg #[vp, vt]] w' (Ret (fun r _ => r = .int .i64 0) w')) := fun w' hb hg' => check_any w' vp vt P T k (RdC.below hp hb) (RdC.below ht hb) hm hg'
  have HMC : Hid (∀ (i : Nat) (tr : Tri), T[i]? = some tr → ∀ w', Below w.heap.size w w' → Calls Tryz.prog 48 #[.agg #[vp, vt], .int .i64 (i : Int)] w' (Ret (fun r _ => r = .agg #[.string (RS (ptI P tr.1).1), .string (RS (ptI P tr.1).2), .string (RS (ptI P tr.2.1).1), .string (RS (ptI P tr.2.1).2), .string (RS (ptI P tr.2.2).1), .string (RS (ptI P tr.2.2).2)]) w')) := fun i tr hti w' hb => by
    obtain ⟨h1, h2⟩ := List.getElem?_eq_some_iff.1 hti
    exact mcorners_any w' vp vt P T k (RdC.below hp hb) (RdC.below ht hb) hm.toMeshIn i (i : Int) rfl h1 tr h2.symm
  have hk0 := hm.kpos
  have HAR : Hid (∀ (i : Nat) (tr : Tri), T[i]? = some tr → ∀ w, Good w → Calls Tryz.prog 50 #[VP (ptI P tr.1), VP (ptI P tr.2.1), VP (ptI P tr.2.2)] w (Ret (fun r _ => r = .string (RS (areaQ (ptI P tr.1) (ptI P tr.2.1) (ptI P tr.2.2)))) w)) := fun i tr hti w hg => by
    obtain ⟨z0, z1, z2⟩ := ptI_SzP hm (List.mem_of_getElem? hti)
    exact area_any _ _ _ k hk0 hm.klim z0 z1 z2 w hg
  have hlen : ∀ n, n ≤ T.length → (8 * k + 6) * n + 1 ≤ 200 := fun n hn => Nat.le_trans (Nat.succ_le_succ (Nat.mul_le_mul_left _ hn)) h6
  have HSA : Hid (∀ n, n ≤ T.length → Sz 200 (sumA P T n)) := fun n hn => (sumA_Sz hm n).mono (hlen n hn)
  have HST : Hid (∀ (i : Nat) (tr : Tri), T[i]? = some tr → sumA P T (i + 1) = sumA P T i + areaQ (ptI P tr.1) (ptI P tr.2.1) (ptI P tr.2.2) ∧ Sz 200 (areaQ (ptI P tr.1) (ptI P tr.2.1) (ptI P tr.2.2))) := fun i tr hti => by
    obtain ⟨z0, z1, z2⟩ := ptI_SzP hm (List.mem_of_getElem? hti)
    have := hlen 1 (by have := (List.getElem?_eq_some_iff.1 hti).1; omega)
    exact ⟨sumA_succ hti, (areaQ_Sz z0 z1 z2).mono (by omega)⟩
  have HS0 : Hid (RS (sumA P T 0) = ⟨#[48]⟩) := RS_zero
  have htl := hm.tlen
  obtain ⟨SA, hSA⟩ : ∃ SA : Nat → Rat, SA = sumA P T := ⟨_, rfl⟩
  rw [← hSA] at HSA HST HS0 ⊢
  obtain ⟨pp, cp, rfl, -, -, -⟩ := hp.open
  obtain ⟨pt, ct, rfl, -, -, -⟩ := ht.open
  rw [strP_length] at *
  clear hp ht hm h6 hlen hSA
  go_enter Tryz.func10, Tryz.ntmps10
  go_wp2_with fail
  obtain ⟨W, hW⟩ : ∃ W, W = w.alloc (.cells #[.slice pp P.length cp, .slice pt T.length ct] 30) := ⟨_, rfl⟩
  have hB : Below w.heap.size w W := by rw [hW]; exact (Below.refl _ _).alloc (Nat.le_refl _) _
  have b1 : BoxN W w.heap.size 30 [.slice pp P.length cp, .slice pt T.length ct] := by rw [hW]; exact BoxN.new _ _ _ _ rfl
  rw [← hW]
  clear hW
  refine (HCK.out W hB (hg.below hB)).mono ?_
  rintro e w1 ⟨_, rfl, rfl, hb1⟩
  have hB1 := hB.trans (hb1.mono hB.size)
  have b11 := b1.below hb1 b1.lt
  have x1 := b11.cell 1 rfl
  clear hb1 hB b1
  go_upto_region 6 with fail
  clear x1
  go_loopw [5, 16] (fun t5 t16 wr => ∃ i : Nat, t16 = .int .i64 i ∧ i ≤ T.length ∧ t5 = .string (RS (SA i)) ∧ Below w1.heap.size w1 wr) (fun _ t16 _ => T.length - (RowKit.intOf t16).toNat)
  case atStart => exact ⟨0, rfl, Nat.zero_le _, by rw [HS0.out], Below.refl _ _⟩
  case round =>
    obtain ⟨i, rfl, hi, rfl, hbr⟩ := hrel
    have hbW := hB1.trans (hbr.mono hB1.size)
    have b1r := b11.below hbr b11.lt
    rcases Nat.lt_or_ge i T.length with h | h
    · obtain ⟨tr, htr⟩ : ∃ tr, T[i]? = some tr := ⟨_, List.getElem?_eq_getElem h⟩
      have HM := Lib.hid (HMC.out i tr htr wr hbW)
      have HA := Lib.hid (HAR.out i tr htr)
      obtain ⟨hst, hzz⟩ := HST.out i tr htr
      have HN := Lib.hid hst
      have HZ := Lib.hid hzz
      have HZI := Lib.hid (HSA.out i hi)
      have hiz : (i : Int) < (T.length : Int) := by omega
      have x0 := b1r.cell 0 rfl
      have x1 := b1r.cell 1 rfl
      unfold VP at HA
      generalize ptI P tr.1 = c0 at *
      generalize ptI P tr.2.1 = c1 at *
      generalize ptI P tr.2.2 = c2 at *
      clear hst hzz htr
      go_wp2_with fail
      refine HM.out.mono ?_
      rintro e w2 ⟨_, rfl, rfl, hb2⟩
      have hbr2 := hbr.trans (hb2.mono hbr.size)
      obtain ⟨o, ho⟩ : ∃ W, W = w2.alloc (.cells #[.string (RS c0.1), .string (RS c0.2), .string (RS c1.1), .string (RS c1.2), .string (RS c2.1), .string (RS c2.2)] 109) := ⟨_, rfl⟩
      have bc : BoxN o w2.heap.size 109 [.string (RS c0.1), .string (RS c0.2), .string (RS c1.1), .string (RS c1.2), .string (RS c2.1), .string (RS c2.2)] := by rw [ho]; exact BoxN.new _ _ _ _ rfl
      have hbo : Below w1.heap.size w1 o := by rw [ho]; exact hbr2.alloc hbr2.size _
      clear x0 x1
      go_upto_region 9 with fail
      rw [← ho]
      clear ho
      have y0 := bc.cell 0 rfl
      have y1 := bc.cell 1 rfl
      have y2 := bc.cell 2 rfl
      have y3 := bc.cell 3 rfl
      have y4 := bc.cell 4 rfl
      have y5 := bc.cell 5 rfl
      have hgo := hg.below (hB1.trans (hbo.mono hB1.size))
      clear hb2 hbr2 hbW b1r HM hbr
      go_wp2_with fail
      refine (HA.out o hgo).mono ?_
      rintro e w3 ⟨_, rfl, rfl, hb3⟩
      have hb3 := hbo.trans (hb3.mono hbo.size)
      have hg3 := hg.below (hB1.trans (hb3.mono hB1.size))
      clear hbo
      go_wp2_with fail
      refine (ratAdd_any (SA i) (areaQ c0 c1 c2) 200 (by omega) (by omega) HZI.out HZ.out w3 hg3).mono ?_
      rintro e w4 ⟨_, rfl, rfl, hb4⟩
      have hb4 := hb3.trans (hb4.mono hb3.size)
      rw [← HN.out]
      go_wp2_with fail
      go_roundw
      case rel => exact ⟨i + 1, by go_num, by omega, rfl, hb4⟩
      case measure => simp [RowKit.intOf]; omega
    · have HI : Hid (i = T.length) := by unfold Hid; omega
      have hige : ¬ (i : Int) < (T.length : Int) := by omega
      have HZI := Lib.hid (HSA.out i hi)
      clear b1r
      go_wp2_with fail
      refine (mright_ok (SA i) HZI.out wr (hg.below hbW)).mono ?_
      rintro e w4 ⟨_, rfl, rfl, hb4⟩
      have hb4 := hbW.trans (hb4.mono hbW.size)
      rw [HI.out]
      go_wp2_with fail
      go_ret2
      exact ⟨_, rfl, rfl, hb4⟩

end Go.Proofs.YtdhcliekejiegaaGreatDoor

namespace Go.Proofs.YtdhcliekejiegaaGreatDoor
open Go.RowKit Go.Lib

/-- The last edge of a list that a mesh lacks. -/
def newE (T : List Tri) (l : List Edge) : Edge := l.foldl (fun c e => if sideI T e.1 e.2 < 0 ∧ sideI T e.2 e.1 < 0 then e else c) (-1, -1)
/-- The same triangles, up to where they begin. -/
def backB (T T2 : List Tri) : Bool := T.all fun t => decide (0 ≤ sideI T2 t.1 t.2.1) && decide (sideI T2 t.1 t.2.1 = sideI T2 t.2.1 t.2.2)
/-- What the law asks of all edges. -/
def sumB (P : List PtQ) (T : List Tri) : Bool :=
  decide ((edgesL (keysOf T)).length + 1 = P.length + T.length) && (decide (0 < (edgesU (keysOf T)).length) && (decide ((edgesU (keysOf T)).length ≤ 12) && (decide (0 < (edgesL (keysOf T)).length) &&
    (edgesL (keysOf T)).all fun e => decide (0 ≤ e.1 ∧ e.1 < e.2 ∧ e.2 < (P.length : Int)) && decide (0 ≤ sideI T e.1 e.2 ∨ 0 ≤ sideI T e.2 e.1))))
theorem sum_shape (k : Nat) : sumB (shapeQ k) (shapeT k) = true := by
  unfold shapeQ shapeP shapeT
  split <;> decide +kernel

theorem sumA_move (s t d : Rat) (P : List PtQ) (T : List Tri) (hx : ∀ t ∈ T, ∀ x ∈ idxOf t, 0 ≤ x ∧ x < (P.length : Int)) (n : Nat) : sumA (P.map (moveP s t d)) T n = d * d * sumA P T n := by
  induction n with
  | zero => show (0 : Rat) = d * d * 0; grind
  | succ n ih =>
    unfold sumA
    rw [ih]
    cases h : T[n]? with
    | none => dsimp only; grind
    | some tr =>
      have htr := List.mem_of_getElem? h
      have i0 := hx tr htr tr.1 (by simp [idxOf])
      have i1 := hx tr htr tr.2.1 (by simp [idxOf])
      have i2 := hx tr htr tr.2.2 (by simp [idxOf])
      dsimp only
      have e : ∀ x : Int, 0 ≤ x → x < (P.length : Int) → ptI (P.map (moveP s t d)) x = moveP s t d (ptI P x) := fun x h0 h1 => by unfold ptI; exact getD_move _ _ _ _ _ (by omega)
      rw [e _ i0.1 i0.2, e _ i1.1 i1.2, e _ i2.1 i2.2, areaQ_move]
      grind
/-- What the walk wants of an edge with two triangles. -/
structure CntF (P : List PtQ) (T : List Tri) (u v : Int) (i k : Nat) (p q : Nat) : Prop where
  ok : MeshOK P (turnT T i k u v p q) 2
  area : sumA P (turnT T i k u v p q) T.length = sumA P T T.length
  len : (edgesL (keysOf (turnT T i k u v p q))).length = (edgesL (keysOf T)).length
  lenU : (edgesU (keysOf (turnT T i k u v p q))).length = (edgesU (keysOf T)).length
  back : ∃ (u2 v2 : Int) (i2 k2 : Nat) (s2 t2 : Tri) (p2 q2 : Nat), newE T (edgesL (keysOf (turnT T i k u v p q))) = (u2, v2) ∧ (0 ≤ u2 ∧ u2 < v2 ∧ v2 < (P.length : Int)) ∧
    sideI (turnT T i k u v p q) u2 v2 = (i2 : Int) ∧ sideI (turnT T i k u v p q) v2 u2 = (k2 : Int) ∧ i2 ≠ k2 ∧ (turnT T i k u v p q)[i2]? = some s2 ∧ (turnT T i k u v p q)[k2]? = some t2 ∧
    s2.1 + s2.2.1 + s2.2.2 - u2 - v2 = (p2 : Int) ∧ t2.1 + t2.2.1 + t2.2.2 - u2 - v2 = (q2 : Int) ∧ p2 < P.length ∧ q2 < P.length ∧
    0 < turnZ (ptI P u2) (ptI P q2) (ptI P p2) ∧ 0 < turnZ (ptI P q2) (ptI P v2) (ptI P p2) ∧ backB T (turnT (turnT T i k u v p q) i2 k2 u2 v2 p2 q2) = true
/-- .. of all edges. -/
theorem sum_facts (kk : Nat) (s0 s1 : Int) (half : Bool) (P : List PtQ) (hP : P = sheetP kk s0 s1 half) (T : List Tri) (hT : T = shapeT kk) :
    (edgesL (keysOf T)).length + 1 = P.length + T.length ∧ 0 < (edgesU (keysOf T)).length ∧ (edgesU (keysOf T)).length ≤ 12 ∧ 0 < (edgesL (keysOf T)).length ∧
    ∀ e ∈ edgesL (keysOf T), (0 ≤ e.1 ∧ e.1 < e.2 ∧ e.2 < (P.length : Int)) ∧ (0 ≤ sideI T e.1 e.2 ∨ 0 ≤ sideI T e.2 e.1) := by
  have h := sum_shape kk
  rw [← hT] at h
  have hlen : P.length = (shapeQ kk).length := by rw [hP, sheetP_length]; simp [shapeQ]
  unfold sumB at h
  simp only [Bool.and_eq_true, decide_eq_true_eq, List.all_eq_true] at h
  rw [hlen]
  exact ⟨h.1, h.2.1, h.2.2.1, h.2.2.2.1, h.2.2.2.2⟩

end Go.Proofs.YtdhcliekejiegaaGreatDoor

namespace Go.Proofs.YtdhcliekejiegaaGreatDoor
open Go.RowKit Go.Lib

/-- A pair has a place to the left, or between. -/
def hullJ (P : List PtQ) (i k j : Nat) : Bool :=
  decide (0 < turnZ (ptI P i) (ptI P k) (ptI P j)) || (decide (turnZ (ptI P i) (ptI P k) (ptI P j) = 0) && betweenB (ptI P i) (ptI P k) (ptI P j))
/-- .. all of the first n places. -/
def hullS (P : List PtQ) (i k n : Nat) : Bool := (List.range n).all (hullJ P i k)
/-- The sum behind the first n second places of a row, and behind the first n rows. -/
def hullR (P : List PtQ) (i : Nat) : Nat → Rat → Rat
  | 0, r => r
  | k + 1, r => if i ≠ k ∧ hullS P i k P.length = true then hullR P i k r + areaQ (ptI P 0) (ptI P i) (ptI P k) else hullR P i k r
def hullN (P : List PtQ) : Nat → Rat
  | 0 => 0
  | i + 1 => hullR P i P.length (hullN P i)
/-- The law's edges. -/
def edgeLw (T : List Tri) (n : Nat) : List Edge := (List.range n).flatMap fun u : Nat => ((List.range n).filter fun v : Nat => decide (u < v) && !(decide (sideI T (u : Int) (v : Int) < 0) && decide (sideI T (v : Int) (u : Int) < 0))).map fun v : Nat => ((u : Int), (v : Int))
/-- A side without a triangle beyond. -/
def bordB (T : List Tri) (u v : Int) : Bool := decide (0 ≤ sideI T u v) && decide (sideI T v u < 0)
def nextI (T : List Tri) (at' : Int) (n : Nat) : Int := (List.range n).foldl (fun (c : Int) (v : Nat) => if bordB T at' (v : Int) then (v : Int) else c) at'
/-- All that is said of a shape's form. -/
def edgB (P : List PtQ) (T : List Tri) : Bool :=
  let c := outerL (keysOf T)
  let n := P.length
  [decide (hullN P n = sumA P T T.length), decide (edgeLw T n = edgesL (keysOf T)), decide (0 < c.length), decide (c.length ≤ 6), decide c.Nodup,
   c.all (fun x => decide (0 ≤ x ∧ x < (n : Int))),
   (List.range c.length).all (fun i => decide (nextI T (cycI c i) n = cycI c ((i + 1) % c.length))),
   (List.range (cycI c 0).toNat).all (fun u : Nat => (List.range n).all fun v : Nat => !bordB T (u : Int) (v : Int)),
   (List.range n).any (fun v : Nat => bordB T (cycI c 0) (v : Int)),
   (List.range c.length).all (fun i => decide (0 ≤ turnZ (ptI P (cycI c ((i + c.length - 1) % c.length))) (ptI P (cycI c i)) (ptI P (cycI c ((i + 1) % c.length)))))].all fun b => b
set_option maxRecDepth 100000 in
theorem edg_shape (k : Nat) : edgB (shapeQ k) (shapeT k) = true := by
  unfold shapeQ shapeP shapeT
  split <;> decide +kernel

end Go.Proofs.YtdhcliekejiegaaGreatDoor

namespace Go.Proofs.YtdhcliekejiegaaGreatDoor
open Go.RowKit Go.Lib

theorem hullS_succ (P : List PtQ) (i k n : Nat) : hullS P i k (n + 1) = (hullS P i k n && hullJ P i k n) := by
  unfold hullS
  rw [List.range_succ, List.all_append]
  simp
theorem hullR_succ (P : List PtQ) (i k : Nat) (r : Rat) : hullR P i (k + 1) r = if i ≠ k ∧ hullS P i k P.length = true then hullR P i k r + areaQ (ptI P 0) (ptI P i) (ptI P k) else hullR P i k r := rfl
theorem hullR_Sz {P : List PtQ} {m : Nat} (hs : ∀ z : Int, SzP m (ptI P z)) (i : Nat) (r : Rat) (a : Nat) (hr : Sz a r) (n : Nat) : Sz (a + (8 * m + 6) * n) (hullR P i n r) := by
  induction n with
  | zero => exact hr
  | succ n ih =>
    rw [hullR_succ]
    split
    · exact (ih.add (areaQ_Sz (hs 0) (hs i) (hs n))).mono (by rw [Nat.mul_add]; omega)
    · exact ih.mono (by rw [Nat.mul_add]; omega)
theorem hullN_Sz {P : List PtQ} {m : Nat} (hs : ∀ z : Int, SzP m (ptI P z)) (n : Nat) : Sz (1 + (8 * m + 6) * P.length * n) (hullN P n) := by
  induction n with
  | zero => exact Sz.zero 1 (by omega)
  | succ n ih =>
    exact (hullR_Sz hs n _ _ ih P.length).mono (by rw [Nat.mul_add ((8 * m + 6) * P.length)]; omega)

theorem turnZ3 (a b c : PtQ) : turnZ a b c = -1 ∨ turnZ a b c = 0 ∨ turnZ a b c = 1 := by
  unfold turnZ
  rcases Int.lt_trichotomy (areaQ a b c).num 0 with h | h | h
  · exact .inl (Int.sign_eq_neg_one_of_neg h)
  · exact .inr (.inl (by rw [h]; rfl))
  · exact .inr (.inr (Int.sign_eq_one_of_pos h))

-- WHEN klippelaw12.hull
set_option maxHeartbeats 4000000 in
set_option maxRecDepth 100000 in
theorem lhull_any (w : World) (vp : Value) (P : List PtQ) (hp : RdP w vp (strP P)) (hP : ∀ p ∈ P, SzP 2 p) (h0 : 0 < P.length) (h7 : P.length ≤ 8) (hg : Good w) :
    Calls Tryz.prog 15 #[vp] w (Ret (fun r _ => r = .string (RS (hullN P P.length))) w) := by
  have hsz : ∀ z : Int, SzP 2 (ptI P z) := fun z => ptI_szP hP (by omega) z
  have HN : Hid (∀ i k, i ≤ 8 → k ≤ 8 → Sz 3000 (hullR P i k (hullN P i))) := fun i k hi hk => by
    have h1 := hullR_Sz hsz i _ _ (hullN_Sz hsz i) k
    have h2 : P.length * i ≤ 8 * 8 := Nat.mul_le_mul h7 hi
    refine h1.mono ?_
    rw [Nat.mul_assoc]
    omega
  have HT : Hid (∀ (a b c : Int) (w : World), Good w → Calls Tryz.prog 60 #[VP (ptI P a), VP (ptI P b), VP (ptI P c)] w (Ret (fun r _ => r = .int .i64 (turnZ (ptI P a) (ptI P b) (ptI P c))) w)) := fun a b c w hg => lturn_any _ _ _ 2 (by omega) (by omega) (hsz a) (hsz b) (hsz c) w hg
  have HBW : Hid (∀ (a b c : Int) (w : World), Good w → Calls Tryz.prog 61 #[VP (ptI P a), VP (ptI P b), VP (ptI P c)] w (Ret (fun r _ => r = .bool (betweenB (ptI P a) (ptI P b) (ptI P c))) w)) := fun a b c w hg => between_any _ _ _ 2 (by omega) (by omega) (hsz a) (hsz b) (hsz c) w hg
  have HOR : Hid (∀ (a b c : Int) (w : World), Good w → Calls Tryz.prog 62 #[VP (ptI P a), VP (ptI P b), VP (ptI P c)] w (Ret (fun r _ => r = .string (RS (areaQ (ptI P a) (ptI P b) (ptI P c)))) w)) := fun a b c w hg => lorient_any _ _ _ 2 (by omega) (by omega) (hsz a) (hsz b) (hsz c) w hg
  have HAZ : Hid (∀ a b c : Int, Sz 21 (areaQ (ptI P a) (ptI P b) (ptI P c))) := fun a b c => (areaQ_Sz (hsz a) (hsz b) (hsz c)).mono (by omega)
  obtain ⟨pp, cp, rfl, -, -, hpc⟩ := hp.open
  rw [strP_length] at *
  obtain ⟨bp, op, rfl, hbp, hcp⟩ := hpc (by intro e; have h2 := strP_length P; rw [e] at h2; simp at h2; omega)
  have HC : Hid (∀ (i : Nat), i < P.length → w.cell? ⟨bp, op + i * 2, none⟩ = some (.string (RS (ptI P (i : Int)).1)) ∧ w.cell? ⟨bp, op + i * 2 + 1, none⟩ = some (.string (RS (ptI P (i : Int)).2))) := fun i hi => by
    obtain ⟨a0, a1⟩ := hcp i (by rw [strP_length]; exact hi)
    rw [strP_get P i hi] at a0 a1
    rw [ptI_nat P i hi]
    exact ⟨a0, a1⟩
  unfold VP at HT HBW HOR
  clear hp hP hsz hpc hcp
  go_enter Tryz.func15, Tryz.ntmps15
  go_wp2_with fail
  go_loopw [3, 4] (fun t3 t4 wr => ∃ i : Nat, t4 = .int .i64 i ∧ i ≤ P.length ∧ t3 = .string (RS (hullN P i)) ∧ Below w.heap.size w wr) (fun _ t4 _ => P.length - (RowKit.intOf t4).toNat)
  case atStart => exact ⟨0, rfl, Nat.zero_le _, by rw [show hullN P 0 = 0 from rfl, RS_zero], Below.refl _ _⟩
  case round =>
    obtain ⟨i, rfl, hi, rfl, hbr⟩ := hrel
    rcases Nat.lt_or_ge i P.length with h | h
    · have hiz : (i : Int) < (P.length : Int) := by omega
      obtain ⟨wo, hwo⟩ : ∃ wo : World, wo = wr := ⟨_, rfl⟩
      subst hwo
      go_wp2_with fail
      go_loopw [3, 5] (fun t3 t5 wr => ∃ k : Nat, t5 = .int .i64 k ∧ k ≤ P.length ∧ t3 = .string (RS (hullR P i k (hullN P i))) ∧ Below w.heap.size w wr) (fun _ t5 _ => P.length - (RowKit.intOf t5).toNat)
      case atStart => exact ⟨0, rfl, Nat.zero_le _, rfl, hbr⟩
      case round =>
        obtain ⟨k, rfl, hk, rfl, hbk⟩ := hrel
        clear hbr
        rcases Nat.lt_or_ge k P.length with h2 | h2
        · have hkz : (k : Int) < (P.length : Int) := by omega
          by_cases hik : i = k
          · subst hik
            have HR : Hid (hullR P i (i + 1) (hullN P i) = hullR P i i (hullN P i)) := by unfold Hid; rw [hullR_succ, if_neg (fun x => x.1 rfl)]
            go_wp2_with fail
            go_roundw
            case rel => exact ⟨i + 1, by go_num, by omega, by rw [HR.out], hbk⟩
            case measure => simp [RowKit.intOf]; omega
          · have hikz : ¬ (i : Int) = (k : Int) := by omega
            have hikb : ((i : Int) == (k : Int)) = false := beq_eq_false_iff_ne.2 hikz
            have hw2 : IntKind.i64.wrap ((k : Int) + 1) = (k : Int) + 1 := IntWalk.i64_in _ (by omega)
            obtain ⟨wi, hwi⟩ : ∃ wi : World, wi = wr := ⟨_, rfl⟩
            subst hwi
            go_wp2_with fail
            go_loopw [6, 7] (fun t6 t7 wr => ∃ j : Nat, t7 = .int .i64 j ∧ j ≤ P.length ∧ t6 = .bool (hullS P i k j) ∧ Below w.heap.size w wr) (fun _ t7 _ => P.length - (RowKit.intOf t7).toNat)
            case atStart => exact ⟨0, rfl, Nat.zero_le _, rfl, hbk⟩
            case round =>
              obtain ⟨j, rfl, hj, rfl, hbj⟩ := hrel
              clear hbk
              rcases Nat.lt_or_ge j P.length with h3 | h3
              · have hjz : (j : Int) < (P.length : Int) := by omega
                have a0 := (hbj.cell (p := ⟨bp, op + i * 2, none⟩) hbp).trans (HC.out i h).1
                have a1 := (hbj.cell (p := ⟨bp, op + i * 2 + 1, none⟩) hbp).trans (HC.out i h).2
                have a2 := (hbj.cell (p := ⟨bp, op + k * 2, none⟩) hbp).trans (HC.out k h2).1
                have a3 := (hbj.cell (p := ⟨bp, op + k * 2 + 1, none⟩) hbp).trans (HC.out k h2).2
                have a4 := (hbj.cell (p := ⟨bp, op + j * 2, none⟩) hbp).trans (HC.out j h3).1
                have a5 := (hbj.cell (p := ⟨bp, op + j * 2 + 1, none⟩) hbp).trans (HC.out j h3).2
                have hbpr : bp < wr.heap.size := Nat.lt_of_lt_of_le hbp hbj.size
                have hgd : Good wr.drew := (hg.below hbj).drewN 1
                have HSS : Hid (hullS P i k (j + 1) = (hullS P i k j && hullJ P i k j)) := hullS_succ P i k j
                have HT1 : Hid (∀ w, Good w → _) := fun w hg => HT.out i k j w hg
                have HB1 : Hid (∀ w, Good w → _) := fun w hg => HBW.out i k j w hg
                unfold hullJ at HSS
                generalize hullS P i k j = sd at *
                generalize ptI P (i : Int) = p0 at *
                generalize ptI P (k : Int) = p1 at *
                generalize ptI P (j : Int) = p2 at *
                go_wp2_with fail
                go_region_held3 (fun w' => w'.cell? ⟨bp, op + i * 2, none⟩ = some (.string (RS p0.1)) ∧ w'.cell? ⟨bp, op + i * 2 + 1, none⟩ = some (.string (RS p0.2)) ∧ w'.cell? ⟨bp, op + k * 2, none⟩ = some (.string (RS p1.1)) ∧ w'.cell? ⟨bp, op + k * 2 + 1, none⟩ = some (.string (RS p1.2)) ∧ w'.cell? ⟨bp, op + j * 2, none⟩ = some (.string (RS p2.1)) ∧ w'.cell? ⟨bp, op + j * 2 + 1, none⟩ = some (.string (RS p2.2)))
                  (first | exact ⟨a0, a1, a2, a3, a4, a5⟩ | exact ⟨p_1_0, p_1_1, p_1_2, p_1_3, p_1_4, p_1_5⟩)
                  (first
                  | (go_at_call 60; refine (HT1.out _ hgd).mono ?_; rintro e pw1 ⟨_, rfl, rfl, pb1⟩
                     have p_1_0 := (pb1.cell (p := ⟨bp, op + i * 2, none⟩) (by show bp < wr.heap.size; omega)).trans a0
                     have p_1_1 := (pb1.cell (p := ⟨bp, op + i * 2 + 1, none⟩) (by show bp < wr.heap.size; omega)).trans a1
                     have p_1_2 := (pb1.cell (p := ⟨bp, op + k * 2, none⟩) (by show bp < wr.heap.size; omega)).trans a2
                     have p_1_3 := (pb1.cell (p := ⟨bp, op + k * 2 + 1, none⟩) (by show bp < wr.heap.size; omega)).trans a3
                     have p_1_4 := (pb1.cell (p := ⟨bp, op + j * 2, none⟩) (by show bp < wr.heap.size; omega)).trans a4
                     have p_1_5 := (pb1.cell (p := ⟨bp, op + j * 2 + 1, none⟩) (by show bp < wr.heap.size; omega)).trans a5
                     have ps1 : wr.heap.size ≤ pw1.heap.size := pb1.size
                     have pg1 : Good pw1 := hgd.below pb1))
                have pB : Below wr.heap.size wr pw1 := ((below_drewN wr 1).trans (pb1.mono (by show wr.heap.size ≤ wr.heap.size; omega)))
                have hbq := hbj.trans (pB.mono hbj.size)
                have b0 := (pB.cell (p := ⟨bp, op + i * 2, none⟩) hbpr).trans a0
                have b1 := (pB.cell (p := ⟨bp, op + i * 2 + 1, none⟩) hbpr).trans a1
                have b2 := (pB.cell (p := ⟨bp, op + k * 2, none⟩) hbpr).trans a2
                have b3 := (pB.cell (p := ⟨bp, op + k * 2 + 1, none⟩) hbpr).trans a3
                have b4 := (pB.cell (p := ⟨bp, op + j * 2, none⟩) hbpr).trans a4
                have b5 := (pB.cell (p := ⟨bp, op + j * 2 + 1, none⟩) hbpr).trans a5
                have hbpq : bp < pw1.heap.size := Nat.lt_of_lt_of_le hbpr pB.size
                obtain ⟨V, hV⟩ : ∃ V, V = pw1 := ⟨_, rfl⟩
                rw [← hV] at b0 b1 b2 b3 b4 b5 hbq hbpq
                rw [← hV]
                clear hV pB pg1 pb1 ps1 a0 a1 a2 a3 a4 a5 hgd HT1
                have hbq1 : Below w.heap.size w V.drew := hbq.trans ((below_drewN V 1).mono hbq.size)
                cases sd with
                | false =>
                  have HN2 : Hid (hullS P i k (j + 1) = false) := by unfold Hid; rw [HSS.out]; rfl
                  go_upto_region 14 with fail
                  refine wp_region_held_drew (S := (fun w' => True)) (by kernel_rfl) ?_ (fun hHeld => ?_)
                  · trivial
                  refine wpAnyH_take (i := 0) (oi := _) (v := ?_) rfl (by kernel_rfl) (by kernel_rfl) (by kernel_rfl) (fun _ _ _ h => h) (Or.inl ⟨by rfl, ?_⟩) (by assumption) ?_
                  rotate_left
                  · intro w hSw; (try dsimp only at hSw); first | (go_simp; done) | (go_simp; with_reducible rfl)
                  try simp only [Act.put, List.getElem_toArray, List.getElem_cons_zero, List.setIfInBounds_toArray, List.set_cons_zero, List.set_cons_succ]
                  refine wpAnyH_take (i := 1) (oi := _) (v := ?_) rfl (by kernel_rfl) (by kernel_rfl) (by kernel_rfl) (fun _ _ _ h => h) (Or.inl ⟨by rfl, ?_⟩) (by assumption) ?_
                  rotate_left
                  · intro w hSw; (try dsimp only at hSw); first | (go_simp; done) | (go_simp; with_reducible rfl)
                  try simp only [Act.put, List.getElem_toArray, List.getElem_cons_zero, List.getElem_cons_succ, List.setIfInBounds_toArray, List.set_cons_zero, List.set_cons_succ]
                  refine wpAnyH_take (i := 2) (oi := _) (v := undef) rfl (by kernel_rfl) (by kernel_rfl) (by kernel_rfl) (fun _ _ _ h => h) (Or.inr ⟨by rfl, rfl⟩) (by assumption) ?_
                  try simp only [Act.put, List.getElem_toArray, List.getElem_cons_zero, List.getElem_cons_succ, List.setIfInBounds_toArray, List.set_cons_zero, List.set_cons_succ]
                  refine wpAnyH_take (i := 3) (oi := _) (v := undef) rfl (by kernel_rfl) (by kernel_rfl) (by kernel_rfl) (fun _ _ _ h => h) (Or.inr ⟨by rfl, rfl⟩) (by assumption) ?_
                  try simp only [Act.put, List.getElem_toArray, List.getElem_cons_zero, List.getElem_cons_succ, List.setIfInBounds_toArray, List.set_cons_zero, List.set_cons_succ]
                  refine wpAnyH_take (i := 4) (oi := _) (v := undef) rfl (by kernel_rfl) (by kernel_rfl) (by kernel_rfl) (fun _ _ _ h => h) (Or.inr ⟨by rfl, rfl⟩) (by assumption) ?_
                  try simp only [Act.put, List.getElem_toArray, List.getElem_cons_zero, List.getElem_cons_succ, List.setIfInBounds_toArray, List.set_cons_zero, List.set_cons_succ]
                  refine wpAnyH_take (i := 5) (oi := _) (v := undef) rfl (by kernel_rfl) (by kernel_rfl) (by kernel_rfl) (fun _ _ _ h => h) (Or.inr ⟨by rfl, rfl⟩) (by assumption) ?_
                  try simp only [Act.put, List.getElem_toArray, List.getElem_cons_zero, List.getElem_cons_succ, List.setIfInBounds_toArray, List.set_cons_zero, List.set_cons_succ]
                  refine wpAnyH_take (i := 6) (oi := _) (v := undef) rfl (by kernel_rfl) (by kernel_rfl) (by kernel_rfl) (fun _ _ _ h => h) (Or.inr ⟨by rfl, rfl⟩) (by assumption) ?_
                  try simp only [Act.put, List.getElem_toArray, List.getElem_cons_zero, List.getElem_cons_succ, List.setIfInBounds_toArray, List.set_cons_zero, List.set_cons_succ]
                  refine wpAnyH_take (i := 7) (oi := _) (v := undef) rfl (by kernel_rfl) (by kernel_rfl) (by kernel_rfl) (fun _ _ _ h => h) (Or.inr ⟨by rfl, rfl⟩) (by assumption) ?_
                  try simp only [Act.put, List.getElem_toArray, List.getElem_cons_zero, List.getElem_cons_succ, List.setIfInBounds_toArray, List.set_cons_zero, List.set_cons_succ]
                  refine wpAnyH_take (i := 8) (oi := _) (v := undef) rfl (by kernel_rfl) (by kernel_rfl) (by kernel_rfl) (fun _ _ _ h => h) (Or.inr ⟨by rfl, rfl⟩) (by assumption) ?_
                  try simp only [Act.put, List.getElem_toArray, List.getElem_cons_zero, List.getElem_cons_succ, List.setIfInBounds_toArray, List.set_cons_zero, List.set_cons_succ]
                  refine wpAnyH_take (i := 9) (oi := _) (v := undef) rfl (by kernel_rfl) (by kernel_rfl) (by kernel_rfl) (fun _ _ _ h => h) (Or.inr ⟨by rfl, rfl⟩) (by assumption) ?_
                  try simp only [Act.put, List.getElem_toArray, List.getElem_cons_zero, List.getElem_cons_succ, List.setIfInBounds_toArray, List.set_cons_zero, List.set_cons_succ]
                  refine wpAnyH_take (i := 10) (oi := _) (v := undef) rfl (by kernel_rfl) (by kernel_rfl) (by kernel_rfl) (fun _ _ _ h => h) (Or.inr ⟨by rfl, rfl⟩) (by assumption) ?_
                  try simp only [Act.put, List.getElem_toArray, List.getElem_cons_zero, List.getElem_cons_succ, List.setIfInBounds_toArray, List.set_cons_zero, List.set_cons_succ]
                  refine wpAnyH_take (i := 11) (oi := _) (v := undef) rfl (by kernel_rfl) (by kernel_rfl) (by kernel_rfl) (fun _ _ _ h => h) (Or.inr ⟨by rfl, rfl⟩) (by assumption) ?_
                  try simp only [Act.put, List.getElem_toArray, List.getElem_cons_zero, List.getElem_cons_succ, List.setIfInBounds_toArray, List.set_cons_zero, List.set_cons_succ]
                  refine wpAnyH_take (i := 12) (oi := _) (v := undef) rfl (by kernel_rfl) (by kernel_rfl) (by kernel_rfl) (fun _ _ _ h => h) (Or.inr ⟨by rfl, rfl⟩) (by assumption) ?_
                  try simp only [Act.put, List.getElem_toArray, List.getElem_cons_zero, List.getElem_cons_succ, List.setIfInBounds_toArray, List.set_cons_zero, List.set_cons_succ]
                  refine wpAnyH_take (i := 13) (oi := _) (v := undef) rfl (by kernel_rfl) (by kernel_rfl) (by kernel_rfl) (fun _ _ _ h => h) (Or.inr ⟨by rfl, rfl⟩) (by assumption) ?_
                  try simp only [Act.put, List.getElem_toArray, List.getElem_cons_zero, List.getElem_cons_succ, List.setIfInBounds_toArray, List.set_cons_zero, List.set_cons_succ]
                  refine wpAnyH_take (i := 14) (oi := _) (v := undef) rfl (by kernel_rfl) (by kernel_rfl) (by kernel_rfl) (fun _ _ _ h => h) (Or.inr ⟨by rfl, rfl⟩) (by assumption) ?_
                  try simp only [Act.put, List.getElem_toArray, List.getElem_cons_zero, List.getElem_cons_succ, List.setIfInBounds_toArray, List.set_cons_zero, List.set_cons_succ]
                  refine wpAnyH_take (i := 15) (oi := _) (v := undef) rfl (by kernel_rfl) (by kernel_rfl) (by kernel_rfl) (fun _ _ _ h => h) (Or.inr ⟨by rfl, rfl⟩) (by assumption) ?_
                  try simp only [Act.put, List.getElem_toArray, List.getElem_cons_zero, List.getElem_cons_succ, List.setIfInBounds_toArray, List.set_cons_zero, List.set_cons_succ]
                  refine wpAnyH_take (i := 16) (oi := _) (v := undef) rfl (by kernel_rfl) (by kernel_rfl) (by kernel_rfl) (fun _ _ _ h => h) (Or.inr ⟨by rfl, rfl⟩) (by assumption) ?_
                  try simp only [Act.put, List.getElem_toArray, List.getElem_cons_zero, List.getElem_cons_succ, List.setIfInBounds_toArray, List.set_cons_zero, List.set_cons_succ]
                  refine wpAnyH_take (i := 17) (oi := _) (v := undef) rfl (by kernel_rfl) (by kernel_rfl) (by kernel_rfl) (fun _ _ _ h => h) (Or.inr ⟨by rfl, rfl⟩) (by assumption) ?_
                  try simp only [Act.put, List.getElem_toArray, List.getElem_cons_zero, List.getElem_cons_succ, List.setIfInBounds_toArray, List.set_cons_zero, List.set_cons_succ]
                  refine wpAnyH_take (i := 18) (oi := _) (v := undef) rfl (by kernel_rfl) (by kernel_rfl) (by kernel_rfl) (fun _ _ _ h => h) (Or.inr ⟨by rfl, rfl⟩) (by assumption) ?_
                  try simp only [Act.put, List.getElem_toArray, List.getElem_cons_zero, List.getElem_cons_succ, List.setIfInBounds_toArray, List.set_cons_zero, List.set_cons_succ]
                  refine wpAnyH_take (i := 19) (oi := _) (v := undef) rfl (by kernel_rfl) (by kernel_rfl) (by kernel_rfl) (fun _ _ _ h => h) (Or.inr ⟨by rfl, rfl⟩) (by assumption) ?_
                  try simp only [Act.put, List.getElem_toArray, List.getElem_cons_zero, List.getElem_cons_succ, List.setIfInBounds_toArray, List.set_cons_zero, List.set_cons_succ]
                  refine wpAnyH_ready (rs := [20]) (by kernel_rfl) (by simp) ?_
                  refine AllReadyH.cons (o := _) rfl (fun K hK => ?_) AllReadyH.nil
                  go_simp
                  refine hK.out _ _ (by assumption) (fun hHeld => ?_)
                  clear hK K
                  try simp only [Act.put, List.getElem_toArray, List.getElem_cons_zero, List.getElem_cons_succ, List.setIfInBounds_toArray, List.set_cons_zero, List.set_cons_succ]
                  refine wpAnyH_take (i := 21) (oi := _) (v := undef) rfl (by kernel_rfl) (by kernel_rfl) (by kernel_rfl) (fun _ _ _ h => h) (Or.inr ⟨by rfl, rfl⟩) (by assumption) ?_
                  try simp only [Act.put, List.getElem_toArray, List.getElem_cons_zero, List.getElem_cons_succ, List.setIfInBounds_toArray, List.set_cons_zero, List.set_cons_succ]
                  refine wpAnyH_take (i := 22) (oi := _) (v := undef) rfl (by kernel_rfl) (by kernel_rfl) (by kernel_rfl) (fun _ _ _ h => h) (Or.inr ⟨by rfl, rfl⟩) (by assumption) ?_
                  try simp only [Act.put, List.getElem_toArray, List.getElem_cons_zero, List.getElem_cons_succ, List.setIfInBounds_toArray, List.set_cons_zero, List.set_cons_succ]
                  refine wpAnyH_take (i := 23) (oi := _) (v := ?_) rfl (by kernel_rfl) (by kernel_rfl) (by kernel_rfl) (fun _ _ _ h => h) (Or.inl ⟨by rfl, ?_⟩) (by assumption) ?_
                  rotate_left
                  · intro w hSw; (try dsimp only at hSw); first | (go_simp; done) | (go_simp; with_reducible rfl)
                  try simp only [Act.put, List.getElem_toArray, List.getElem_cons_zero, List.getElem_cons_succ, List.setIfInBounds_toArray, List.set_cons_zero, List.set_cons_succ]
                  refine wpAnyH_take (i := 24) (oi := _) (v := ?_) rfl (by kernel_rfl) (by kernel_rfl) (by kernel_rfl) (fun _ _ _ h => h) (Or.inl ⟨by rfl, ?_⟩) (by assumption) ?_
                  rotate_left
                  · intro w hSw; (try dsimp only at hSw); first | (go_simp; done) | (go_simp; with_reducible rfl)
                  try simp only [Act.put, List.getElem_toArray, List.getElem_cons_zero, List.getElem_cons_succ, List.setIfInBounds_toArray, List.set_cons_zero, List.set_cons_succ]
                  refine wpAnyH_done (by kernel_rfl) ?_ _
                  go_wp2_with fail
                  go_roundw
                  case rel => exact ⟨j + 1, by go_num, by omega, by rw [HN2.out], hbq1⟩
                  case measure => simp [RowKit.intOf]; omega
                | true =>
                  rcases turnZ3 p0 p1 p2 with hz | hz | hz
                  · have HN2 : Hid (hullS P i k (j + 1) = false) := by unfold Hid; rw [HSS.out, hz]; rfl
                    rw [hz]
                    clear hz HSS HB1
                    go_upto_region 14 with fail
                    refine wp_region_held_drew (S := (fun w' => True)) (by kernel_rfl) ?_ (fun hHeld => ?_)
                    · trivial
                    refine wpAnyH_take (i := 0) (oi := _) (v := ?_) rfl (by kernel_rfl) (by kernel_rfl) (by kernel_rfl) (fun _ _ _ h => h) (Or.inl ⟨by rfl, ?_⟩) (by assumption) ?_
                    rotate_left
                    · intro w hSw; (try dsimp only at hSw); first | (go_simp; done) | (go_simp; with_reducible rfl)
                    try simp only [Act.put, List.getElem_toArray, List.getElem_cons_zero, List.setIfInBounds_toArray, List.set_cons_zero, List.set_cons_succ]
                    refine wpAnyH_take (i := 1) (oi := _) (v := ?_) rfl (by kernel_rfl) (by kernel_rfl) (by kernel_rfl) (fun _ _ _ h => h) (Or.inl ⟨by rfl, ?_⟩) (by assumption) ?_
                    rotate_left
                    · intro w hSw; (try dsimp only at hSw); first | (go_simp; done) | (go_simp; with_reducible rfl)
                    try simp only [Act.put, List.getElem_toArray, List.getElem_cons_zero, List.getElem_cons_succ, List.setIfInBounds_toArray, List.set_cons_zero, List.set_cons_succ]
                    refine wpAnyH_take (i := 2) (oi := _) (v := ?_) rfl (by kernel_rfl) (by kernel_rfl) (by kernel_rfl) (fun _ _ _ h => h) (Or.inl ⟨by rfl, ?_⟩) (by assumption) ?_
                    rotate_left
                    · intro w hSw; (try dsimp only at hSw); first | (go_simp; done) | (go_simp; with_reducible rfl)
                    try simp only [Act.put, List.getElem_toArray, List.getElem_cons_zero, List.getElem_cons_succ, List.setIfInBounds_toArray, List.set_cons_zero, List.set_cons_succ]
                    refine wpAnyH_take (i := 3) (oi := _) (v := ?_) rfl (by kernel_rfl) (by kernel_rfl) (by kernel_rfl) (fun _ _ _ h => h) (Or.inl ⟨by rfl, ?_⟩) (by assumption) ?_
                    rotate_left
                    · intro w hSw; (try dsimp only at hSw); first | (go_simp; done) | (go_simp; with_reducible rfl)
                    try simp only [Act.put, List.getElem_toArray, List.getElem_cons_zero, List.getElem_cons_succ, List.setIfInBounds_toArray, List.set_cons_zero, List.set_cons_succ]
                    refine wpAnyH_take (i := 4) (oi := _) (v := ?_) rfl (by kernel_rfl) (by kernel_rfl) (by kernel_rfl) (fun _ _ _ h => h) (Or.inl ⟨by rfl, ?_⟩) (by assumption) ?_
                    rotate_left
                    · intro w hSw; (try dsimp only at hSw); first | (go_simp; done) | (go_simp; with_reducible rfl)
                    try simp only [Act.put, List.getElem_toArray, List.getElem_cons_zero, List.getElem_cons_succ, List.setIfInBounds_toArray, List.set_cons_zero, List.set_cons_succ]
                    refine wpAnyH_take (i := 5) (oi := _) (v := ?_) rfl (by kernel_rfl) (by kernel_rfl) (by kernel_rfl) (fun _ _ _ h => h) (Or.inl ⟨by rfl, ?_⟩) (by assumption) ?_
                    rotate_left
                    · intro w hSw; (try dsimp only at hSw); first | (go_simp; done) | (go_simp; with_reducible rfl)
                    try simp only [Act.put, List.getElem_toArray, List.getElem_cons_zero, List.getElem_cons_succ, List.setIfInBounds_toArray, List.set_cons_zero, List.set_cons_succ]
                    refine wpAnyH_take (i := 6) (oi := _) (v := ?_) rfl (by kernel_rfl) (by kernel_rfl) (by kernel_rfl) (fun _ _ _ h => h) (Or.inl ⟨by rfl, ?_⟩) (by assumption) ?_
                    rotate_left
                    · intro w hSw; (try dsimp only at hSw); first | (go_simp; done) | (go_simp; with_reducible rfl)
                    try simp only [Act.put, List.getElem_toArray, List.getElem_cons_zero, List.getElem_cons_succ, List.setIfInBounds_toArray, List.set_cons_zero, List.set_cons_succ]
                    refine wpAnyH_take (i := 7) (oi := _) (v := ?_) rfl (by kernel_rfl) (by kernel_rfl) (by kernel_rfl) (fun _ _ _ h => h) (Or.inl ⟨by rfl, ?_⟩) (by assumption) ?_
                    rotate_left
                    · intro w hSw; (try dsimp only at hSw); first | (go_simp; done) | (go_simp; with_reducible rfl)
                    try simp only [Act.put, List.getElem_toArray, List.getElem_cons_zero, List.getElem_cons_succ, List.setIfInBounds_toArray, List.set_cons_zero, List.set_cons_succ]
                    refine wpAnyH_take (i := 8) (oi := _) (v := undef) rfl (by kernel_rfl) (by kernel_rfl) (by kernel_rfl) (fun _ _ _ h => h) (Or.inr ⟨by rfl, rfl⟩) (by assumption) ?_
                    try simp only [Act.put, List.getElem_toArray, List.getElem_cons_zero, List.getElem_cons_succ, List.setIfInBounds_toArray, List.set_cons_zero, List.set_cons_succ]
                    refine wpAnyH_take (i := 9) (oi := _) (v := undef) rfl (by kernel_rfl) (by kernel_rfl) (by kernel_rfl) (fun _ _ _ h => h) (Or.inr ⟨by rfl, rfl⟩) (by assumption) ?_
                    try simp only [Act.put, List.getElem_toArray, List.getElem_cons_zero, List.getElem_cons_succ, List.setIfInBounds_toArray, List.set_cons_zero, List.set_cons_succ]
                    refine wpAnyH_take (i := 10) (oi := _) (v := undef) rfl (by kernel_rfl) (by kernel_rfl) (by kernel_rfl) (fun _ _ _ h => h) (Or.inr ⟨by rfl, rfl⟩) (by assumption) ?_
                    try simp only [Act.put, List.getElem_toArray, List.getElem_cons_zero, List.getElem_cons_succ, List.setIfInBounds_toArray, List.set_cons_zero, List.set_cons_succ]
                    refine wpAnyH_take (i := 11) (oi := _) (v := undef) rfl (by kernel_rfl) (by kernel_rfl) (by kernel_rfl) (fun _ _ _ h => h) (Or.inr ⟨by rfl, rfl⟩) (by assumption) ?_
                    try simp only [Act.put, List.getElem_toArray, List.getElem_cons_zero, List.getElem_cons_succ, List.setIfInBounds_toArray, List.set_cons_zero, List.set_cons_succ]
                    refine wpAnyH_take (i := 12) (oi := _) (v := undef) rfl (by kernel_rfl) (by kernel_rfl) (by kernel_rfl) (fun _ _ _ h => h) (Or.inr ⟨by rfl, rfl⟩) (by assumption) ?_
                    try simp only [Act.put, List.getElem_toArray, List.getElem_cons_zero, List.getElem_cons_succ, List.setIfInBounds_toArray, List.set_cons_zero, List.set_cons_succ]
                    refine wpAnyH_take (i := 13) (oi := _) (v := undef) rfl (by kernel_rfl) (by kernel_rfl) (by kernel_rfl) (fun _ _ _ h => h) (Or.inr ⟨by rfl, rfl⟩) (by assumption) ?_
                    try simp only [Act.put, List.getElem_toArray, List.getElem_cons_zero, List.getElem_cons_succ, List.setIfInBounds_toArray, List.set_cons_zero, List.set_cons_succ]
                    refine wpAnyH_take (i := 14) (oi := _) (v := undef) rfl (by kernel_rfl) (by kernel_rfl) (by kernel_rfl) (fun _ _ _ h => h) (Or.inr ⟨by rfl, rfl⟩) (by assumption) ?_
                    try simp only [Act.put, List.getElem_toArray, List.getElem_cons_zero, List.getElem_cons_succ, List.setIfInBounds_toArray, List.set_cons_zero, List.set_cons_succ]
                    refine wpAnyH_take (i := 15) (oi := _) (v := undef) rfl (by kernel_rfl) (by kernel_rfl) (by kernel_rfl) (fun _ _ _ h => h) (Or.inr ⟨by rfl, rfl⟩) (by assumption) ?_
                    try simp only [Act.put, List.getElem_toArray, List.getElem_cons_zero, List.getElem_cons_succ, List.setIfInBounds_toArray, List.set_cons_zero, List.set_cons_succ]
                    refine wpAnyH_take (i := 16) (oi := _) (v := undef) rfl (by kernel_rfl) (by kernel_rfl) (by kernel_rfl) (fun _ _ _ h => h) (Or.inr ⟨by rfl, rfl⟩) (by assumption) ?_
                    try simp only [Act.put, List.getElem_toArray, List.getElem_cons_zero, List.getElem_cons_succ, List.setIfInBounds_toArray, List.set_cons_zero, List.set_cons_succ]
                    refine wpAnyH_take (i := 17) (oi := _) (v := undef) rfl (by kernel_rfl) (by kernel_rfl) (by kernel_rfl) (fun _ _ _ h => h) (Or.inr ⟨by rfl, rfl⟩) (by assumption) ?_
                    try simp only [Act.put, List.getElem_toArray, List.getElem_cons_zero, List.getElem_cons_succ, List.setIfInBounds_toArray, List.set_cons_zero, List.set_cons_succ]
                    refine wpAnyH_take (i := 18) (oi := _) (v := undef) rfl (by kernel_rfl) (by kernel_rfl) (by kernel_rfl) (fun _ _ _ h => h) (Or.inr ⟨by rfl, rfl⟩) (by assumption) ?_
                    try simp only [Act.put, List.getElem_toArray, List.getElem_cons_zero, List.getElem_cons_succ, List.setIfInBounds_toArray, List.set_cons_zero, List.set_cons_succ]
                    refine wpAnyH_take (i := 19) (oi := _) (v := undef) rfl (by kernel_rfl) (by kernel_rfl) (by kernel_rfl) (fun _ _ _ h => h) (Or.inr ⟨by rfl, rfl⟩) (by assumption) ?_
                    try simp only [Act.put, List.getElem_toArray, List.getElem_cons_zero, List.getElem_cons_succ, List.setIfInBounds_toArray, List.set_cons_zero, List.set_cons_succ]
                    refine wpAnyH_ready (rs := [20]) (by kernel_rfl) (by simp) ?_
                    refine AllReadyH.cons (o := _) rfl (fun K hK => ?_) AllReadyH.nil
                    go_simp
                    refine hK.out _ _ (by assumption) (fun hHeld => ?_)
                    clear hK K
                    try simp only [Act.put, List.getElem_toArray, List.getElem_cons_zero, List.getElem_cons_succ, List.setIfInBounds_toArray, List.set_cons_zero, List.set_cons_succ]
                    refine wpAnyH_take (i := 21) (oi := _) (v := ?_) rfl (by kernel_rfl) (by kernel_rfl) (by kernel_rfl) (fun _ _ _ h => h) (Or.inl ⟨by rfl, ?_⟩) (by assumption) ?_
                    rotate_left
                    · intro w hSw; (try dsimp only at hSw); first | (go_simp; done) | (go_simp; with_reducible rfl)
                    try simp only [Act.put, List.getElem_toArray, List.getElem_cons_zero, List.getElem_cons_succ, List.setIfInBounds_toArray, List.set_cons_zero, List.set_cons_succ]
                    refine wpAnyH_take (i := 22) (oi := _) (v := ?_) rfl (by kernel_rfl) (by kernel_rfl) (by kernel_rfl) (fun _ _ _ h => h) (Or.inl ⟨by rfl, ?_⟩) (by assumption) ?_
                    rotate_left
                    · intro w hSw; (try dsimp only at hSw); first | (go_simp; done) | (go_simp; with_reducible rfl)
                    try simp only [Act.put, List.getElem_toArray, List.getElem_cons_zero, List.getElem_cons_succ, List.setIfInBounds_toArray, List.set_cons_zero, List.set_cons_succ]
                    refine wpAnyH_take (i := 23) (oi := _) (v := ?_) rfl (by kernel_rfl) (by kernel_rfl) (by kernel_rfl) (fun _ _ _ h => h) (Or.inl ⟨by rfl, ?_⟩) (by assumption) ?_
                    rotate_left
                    · intro w hSw; (try dsimp only at hSw); first | (go_simp; done) | (go_simp; with_reducible rfl)
                    try simp only [Act.put, List.getElem_toArray, List.getElem_cons_zero, List.getElem_cons_succ, List.setIfInBounds_toArray, List.set_cons_zero, List.set_cons_succ]
                    refine wpAnyH_take (i := 24) (oi := _) (v := ?_) rfl (by kernel_rfl) (by kernel_rfl) (by kernel_rfl) (fun _ _ _ h => h) (Or.inl ⟨by rfl, ?_⟩) (by assumption) ?_
                    rotate_left
                    · intro w hSw; (try dsimp only at hSw); first | (go_simp; done) | (go_simp; with_reducible rfl)
                    try simp only [Act.put, List.getElem_toArray, List.getElem_cons_zero, List.getElem_cons_succ, List.setIfInBounds_toArray, List.set_cons_zero, List.set_cons_succ]
                    refine wpAnyH_done (by kernel_rfl) ?_ _
                    go_wp2_with fail
                    go_roundw
                    case rel => exact ⟨j + 1, by go_num, by omega, by rw [HN2.out], hbq1⟩
                    case measure => simp [RowKit.intOf]; omega
                  · have HN2 : Hid (hullS P i k (j + 1) = betweenB p0 p1 p2) := by
                      unfold Hid; rw [HSS.out, hz]
                      show (true && (false || (true && betweenB p0 p1 p2))) = betweenB p0 p1 p2
                      cases betweenB p0 p1 p2 <;> rfl
                    rw [hz]
                    clear hz HSS
                    have HK8 : Hid (∀ w', Below V.heap.size V w' → w'.cell? ⟨bp, op + i * 2, none⟩ = some (.string (RS p0.1)) ∧ w'.cell? ⟨bp, op + i * 2 + 1, none⟩ = some (.string (RS p0.2)) ∧ w'.cell? ⟨bp, op + k * 2, none⟩ = some (.string (RS p1.1)) ∧ w'.cell? ⟨bp, op + k * 2 + 1, none⟩ = some (.string (RS p1.2)) ∧ w'.cell? ⟨bp, op + j * 2, none⟩ = some (.string (RS p2.1)) ∧ w'.cell? ⟨bp, op + j * 2 + 1, none⟩ = some (.string (RS p2.2))) := fun w' hb =>
                      ⟨(hb.cell (p := ⟨bp, op + i * 2, none⟩) hbpq).trans b0, (hb.cell (p := ⟨bp, op + i * 2 + 1, none⟩) hbpq).trans b1, (hb.cell (p := ⟨bp, op + k * 2, none⟩) hbpq).trans b2, (hb.cell (p := ⟨bp, op + k * 2 + 1, none⟩) hbpq).trans b3, (hb.cell (p := ⟨bp, op + j * 2, none⟩) hbpq).trans b4, (hb.cell (p := ⟨bp, op + j * 2 + 1, none⟩) hbpq).trans b5⟩
                    have q0 : Below V.heap.size V V.drew := below_drewN V 1
                    have hgV : Good V.drew := hg.below hbq1
                    clear b0 b1 b2 b3 b4 b5
                    go_upto_region 14 with fail
                    refine wp_region_held_drew (S := (fun w' => w'.cell? ⟨bp, op + i * 2, none⟩ = some (.string (RS p0.1)) ∧ w'.cell? ⟨bp, op + i * 2 + 1, none⟩ = some (.string (RS p0.2)) ∧ w'.cell? ⟨bp, op + k * 2, none⟩ = some (.string (RS p1.1)) ∧ w'.cell? ⟨bp, op + k * 2 + 1, none⟩ = some (.string (RS p1.2)) ∧ w'.cell? ⟨bp, op + j * 2, none⟩ = some (.string (RS p2.1)) ∧ w'.cell? ⟨bp, op + j * 2 + 1, none⟩ = some (.string (RS p2.2)))) (by kernel_rfl) ?_ (fun hHeld => ?_)
                    · first | exact HK8.out _ q1 | exact HK8.out _ q0
                    refine wpAnyH_take (i := 0) (oi := _) (v := ?_) rfl (by kernel_rfl) (by kernel_rfl) (by kernel_rfl) (fun _ _ _ h => h) (Or.inl ⟨by rfl, ?_⟩) (by assumption) ?_
                    rotate_left
                    · intro w hSw; (try dsimp only at hSw); first | (go_simp; done) | (go_simp; with_reducible rfl)
                    try simp only [Act.put, List.getElem_toArray, List.getElem_cons_zero, List.setIfInBounds_toArray, List.set_cons_zero, List.set_cons_succ]
                    refine wpAnyH_take (i := 1) (oi := _) (v := ?_) rfl (by kernel_rfl) (by kernel_rfl) (by kernel_rfl) (fun _ _ _ h => h) (Or.inl ⟨by rfl, ?_⟩) (by assumption) ?_
                    rotate_left
                    · intro w hSw; (try dsimp only at hSw); first | (go_simp; done) | (go_simp; with_reducible rfl)
                    try simp only [Act.put, List.getElem_toArray, List.getElem_cons_zero, List.getElem_cons_succ, List.setIfInBounds_toArray, List.set_cons_zero, List.set_cons_succ]
                    refine wpAnyH_take (i := 2) (oi := _) (v := ?_) rfl (by kernel_rfl) (by kernel_rfl) (by kernel_rfl) (fun _ _ _ h => h) (Or.inl ⟨by rfl, ?_⟩) (by assumption) ?_
                    rotate_left
                    · intro w hSw; (try dsimp only at hSw); first | (go_simp; done) | (go_simp; with_reducible rfl)
                    try simp only [Act.put, List.getElem_toArray, List.getElem_cons_zero, List.getElem_cons_succ, List.setIfInBounds_toArray, List.set_cons_zero, List.set_cons_succ]
                    refine wpAnyH_take (i := 3) (oi := _) (v := ?_) rfl (by kernel_rfl) (by kernel_rfl) (by kernel_rfl) (fun _ _ _ h => h) (Or.inl ⟨by rfl, ?_⟩) (by assumption) ?_
                    rotate_left
                    · intro w hSw; (try dsimp only at hSw); first | (go_simp; done) | (go_simp; with_reducible rfl)
                    try simp only [Act.put, List.getElem_toArray, List.getElem_cons_zero, List.getElem_cons_succ, List.setIfInBounds_toArray, List.set_cons_zero, List.set_cons_succ]
                    refine wpAnyH_take (i := 4) (oi := _) (v := ?_) rfl (by kernel_rfl) (by kernel_rfl) (by kernel_rfl) (fun _ _ _ h => h) (Or.inl ⟨by rfl, ?_⟩) (by assumption) ?_
                    rotate_left
                    · intro w hSw; (try dsimp only at hSw); first | (go_simp; done) | (go_simp; with_reducible rfl)
                    try simp only [Act.put, List.getElem_toArray, List.getElem_cons_zero, List.getElem_cons_succ, List.setIfInBounds_toArray, List.set_cons_zero, List.set_cons_succ]
                    refine wpAnyH_take (i := 5) (oi := _) (v := ?_) rfl (by kernel_rfl) (by kernel_rfl) (by kernel_rfl) (fun _ _ _ h => h) (Or.inl ⟨by rfl, ?_⟩) (by assumption) ?_
                    rotate_left
                    · intro w hSw; (try dsimp only at hSw); first | (go_simp; done) | (go_simp; with_reducible rfl)
                    try simp only [Act.put, List.getElem_toArray, List.getElem_cons_zero, List.getElem_cons_succ, List.setIfInBounds_toArray, List.set_cons_zero, List.set_cons_succ]
                    refine wpAnyH_take (i := 6) (oi := _) (v := ?_) rfl (by kernel_rfl) (by kernel_rfl) (by kernel_rfl) (fun _ _ _ h => h) (Or.inl ⟨by rfl, ?_⟩) (by assumption) ?_
                    rotate_left
                    · intro w hSw; (try dsimp only at hSw); first | (go_simp; done) | (go_simp; with_reducible rfl)
                    try simp only [Act.put, List.getElem_toArray, List.getElem_cons_zero, List.getElem_cons_succ, List.setIfInBounds_toArray, List.set_cons_zero, List.set_cons_succ]
                    refine wpAnyH_take (i := 7) (oi := _) (v := ?_) rfl (by kernel_rfl) (by kernel_rfl) (by kernel_rfl) (fun _ _ _ h => h) (Or.inl ⟨by rfl, ?_⟩) (by assumption) ?_
                    rotate_left
                    · intro w hSw; (try dsimp only at hSw); first | (go_simp; done) | (go_simp; with_reducible rfl)
                    try simp only [Act.put, List.getElem_toArray, List.getElem_cons_zero, List.getElem_cons_succ, List.setIfInBounds_toArray, List.set_cons_zero, List.set_cons_succ]
                    refine wpAnyH_take (i := 8) (oi := _) (v := ?_) rfl (by kernel_rfl) (by kernel_rfl) (by kernel_rfl) (fun _ _ _ h => h) (Or.inl ⟨by rfl, ?_⟩) (by assumption) ?_
                    rotate_left
                    · intro w hSw; (try dsimp only at hSw); first | (go_simp; done) | (go_simp; with_reducible rfl)
                    try simp only [Act.put, List.getElem_toArray, List.getElem_cons_zero, List.getElem_cons_succ, List.setIfInBounds_toArray, List.set_cons_zero, List.set_cons_succ]
                    refine wpAnyH_take (i := 9) (oi := _) (v := ?_) rfl (by kernel_rfl) (by kernel_rfl) (by kernel_rfl) (fun _ _ _ h => h) (Or.inl ⟨by rfl, ?_⟩) (by assumption) ?_
                    rotate_left
                    · intro w hSw; (try dsimp only at hSw); first | (go_simp; done) | (go_simp; with_reducible rfl)
                    try simp only [Act.put, List.getElem_toArray, List.getElem_cons_zero, List.getElem_cons_succ, List.setIfInBounds_toArray, List.set_cons_zero, List.set_cons_succ]
                    refine wpAnyH_take (i := 10) (oi := _) (v := ?_) rfl (by kernel_rfl) (by kernel_rfl) (by kernel_rfl) (fun _ _ _ h => h) (Or.inl ⟨by rfl, ?_⟩) (by assumption) ?_
                    rotate_left
                    · intro w hSw; (try dsimp only at hSw); first | (go_simp; done) | (go_simp; with_reducible rfl)
                    try simp only [Act.put, List.getElem_toArray, List.getElem_cons_zero, List.getElem_cons_succ, List.setIfInBounds_toArray, List.set_cons_zero, List.set_cons_succ]
                    refine wpAnyH_take (i := 11) (oi := _) (v := ?_) rfl (by kernel_rfl) (by kernel_rfl) (by kernel_rfl) (fun _ _ _ h => h) (Or.inl ⟨by rfl, ?_⟩) (by assumption) ?_
                    rotate_left
                    · intro w hSw; (try dsimp only at hSw); first | (go_simp; done) | (go_simp; with_reducible rfl)
                    try simp only [Act.put, List.getElem_toArray, List.getElem_cons_zero, List.getElem_cons_succ, List.setIfInBounds_toArray, List.set_cons_zero, List.set_cons_succ]
                    refine wpAnyH_take (i := 12) (oi := _) (v := ?_) rfl (by kernel_rfl) (by kernel_rfl) (by kernel_rfl) (fun _ _ _ h => h) (Or.inl ⟨by rfl, ?_⟩) (by assumption) ?_
                    rotate_left
                    · intro w hSw; (try dsimp only at hSw); first | (go_simp; done) | (go_simp; with_reducible rfl)
                    try simp only [Act.put, List.getElem_toArray, List.getElem_cons_zero, List.getElem_cons_succ, List.setIfInBounds_toArray, List.set_cons_zero, List.set_cons_succ]
                    refine wpAnyH_take (i := 13) (oi := _) (v := ?_) rfl (by kernel_rfl) (by kernel_rfl) (by kernel_rfl) (fun _ _ _ h => h) (Or.inl ⟨by rfl, ?_⟩) (by assumption) ?_
                    rotate_left
                    · intro w hSw; (try dsimp only at hSw); first | (go_simp; done) | (go_simp; with_reducible rfl)
                    try simp only [Act.put, List.getElem_toArray, List.getElem_cons_zero, List.getElem_cons_succ, List.setIfInBounds_toArray, List.set_cons_zero, List.set_cons_succ]
                    refine wpAnyH_take (i := 14) (oi := _) (v := ?_) rfl (by kernel_rfl) (by kernel_rfl) (by kernel_rfl) (fun _ _ _ h => h) (Or.inl ⟨by rfl, ?_⟩) (by assumption) ?_
                    rotate_left
                    · intro w hSw; (try dsimp only at hSw); first | (go_simp; done) | (go_simp; with_reducible rfl)
                    try simp only [Act.put, List.getElem_toArray, List.getElem_cons_zero, List.getElem_cons_succ, List.setIfInBounds_toArray, List.set_cons_zero, List.set_cons_succ]
                    refine wpAnyH_take (i := 15) (oi := _) (v := ?_) rfl (by kernel_rfl) (by kernel_rfl) (by kernel_rfl) (fun _ _ _ h => h) (Or.inl ⟨by rfl, ?_⟩) (by assumption) ?_
                    rotate_left
                    · intro w hSw; (try dsimp only at hSw); first | (go_simp; done) | (go_simp; with_reducible rfl)
                    try simp only [Act.put, List.getElem_toArray, List.getElem_cons_zero, List.getElem_cons_succ, List.setIfInBounds_toArray, List.set_cons_zero, List.set_cons_succ]
                    refine wpAnyH_take (i := 16) (oi := _) (v := ?_) rfl (by kernel_rfl) (by kernel_rfl) (by kernel_rfl) (fun _ _ _ h => h) (Or.inl ⟨by rfl, ?_⟩) (by assumption) ?_
                    rotate_left
                    · intro w hSw; (try dsimp only at hSw); first | (go_simp; done) | (go_simp; with_reducible rfl)
                    try simp only [Act.put, List.getElem_toArray, List.getElem_cons_zero, List.getElem_cons_succ, List.setIfInBounds_toArray, List.set_cons_zero, List.set_cons_succ]
                    refine wpAnyH_take (i := 17) (oi := _) (v := ?_) rfl (by kernel_rfl) (by kernel_rfl) (by kernel_rfl) (fun _ _ _ h => h) (Or.inl ⟨by rfl, ?_⟩) (by assumption) ?_
                    rotate_left
                    · intro w hSw; (try dsimp only at hSw); first | (go_simp; done) | (go_simp; with_reducible rfl)
                    try simp only [Act.put, List.getElem_toArray, List.getElem_cons_zero, List.getElem_cons_succ, List.setIfInBounds_toArray, List.set_cons_zero, List.set_cons_succ]
                    refine wpAnyH_take (i := 18) (oi := _) (v := ?_) rfl (by kernel_rfl) (by kernel_rfl) (by kernel_rfl) (fun _ _ _ h => h) (Or.inl ⟨by rfl, ?_⟩) (by assumption) ?_
                    rotate_left
                    · intro w hSw; (try dsimp only at hSw); first | (go_simp; done) | (go_simp; with_reducible rfl)
                    try simp only [Act.put, List.getElem_toArray, List.getElem_cons_zero, List.getElem_cons_succ, List.setIfInBounds_toArray, List.set_cons_zero, List.set_cons_succ]
                    refine wpAnyH_take (i := 19) (oi := _) (v := ?_) rfl (by kernel_rfl) (by kernel_rfl) (by kernel_rfl) (fun _ _ _ h => h) (Or.inl ⟨by rfl, ?_⟩) (by assumption) ?_
                    rotate_left
                    · intro w hSw; (try dsimp only at hSw); first | (go_simp; done) | (go_simp; with_reducible rfl)
                    try simp only [Act.put, List.getElem_toArray, List.getElem_cons_zero, List.getElem_cons_succ, List.setIfInBounds_toArray, List.set_cons_zero, List.set_cons_succ]
                    refine wpAnyH_ready (rs := [20]) (by kernel_rfl) (by simp) ?_
                    refine AllReadyH.cons (o := _) rfl (fun K hK => ?_) AllReadyH.nil
                    go_simp
                    (refine (HB1.out _ hgV).mono ?_; rintro e y1 ⟨_, rfl, rfl, hy1⟩; have q1 := q0.trans (hy1.mono q0.size))
                    refine hK.out _ _ ?_ (fun hHeld => ?_)
                    · first | exact HK8.out _ q1 | exact HK8.out _ q0
                    clear hK K
                    try simp only [Act.put, List.getElem_toArray, List.getElem_cons_zero, List.getElem_cons_succ, List.setIfInBounds_toArray, List.set_cons_zero, List.set_cons_succ]
                    refine wpAnyH_take (i := 21) (oi := _) (v := ?_) rfl (by kernel_rfl) (by kernel_rfl) (by kernel_rfl) (fun _ _ _ h => h) (Or.inl ⟨by rfl, ?_⟩) (by assumption) ?_
                    rotate_left
                    · intro w hSw; (try dsimp only at hSw); first | (go_simp; done) | (go_simp; with_reducible rfl)
                    try simp only [Act.put, List.getElem_toArray, List.getElem_cons_zero, List.getElem_cons_succ, List.setIfInBounds_toArray, List.set_cons_zero, List.set_cons_succ]
                    refine wpAnyH_take (i := 22) (oi := _) (v := ?_) rfl (by kernel_rfl) (by kernel_rfl) (by kernel_rfl) (fun _ _ _ h => h) (Or.inl ⟨by rfl, ?_⟩) (by assumption) ?_
                    rotate_left
                    · intro w hSw; (try dsimp only at hSw); first | (go_simp; done) | (go_simp; with_reducible rfl)
                    try simp only [Act.put, List.getElem_toArray, List.getElem_cons_zero, List.getElem_cons_succ, List.setIfInBounds_toArray, List.set_cons_zero, List.set_cons_succ]
                    refine wpAnyH_take (i := 23) (oi := _) (v := ?_) rfl (by kernel_rfl) (by kernel_rfl) (by kernel_rfl) (fun _ _ _ h => h) (Or.inl ⟨by rfl, ?_⟩) (by assumption) ?_
                    rotate_left
                    · intro w hSw; (try dsimp only at hSw); first | (go_simp; done) | (go_simp; with_reducible rfl)
                    try simp only [Act.put, List.getElem_toArray, List.getElem_cons_zero, List.getElem_cons_succ, List.setIfInBounds_toArray, List.set_cons_zero, List.set_cons_succ]
                    refine wpAnyH_take (i := 24) (oi := _) (v := ?_) rfl (by kernel_rfl) (by kernel_rfl) (by kernel_rfl) (fun _ _ _ h => h) (Or.inl ⟨by rfl, ?_⟩) (by assumption) ?_
                    rotate_left
                    · intro w hSw; (try dsimp only at hSw); first | (go_simp; done) | (go_simp; with_reducible rfl)
                    try simp only [Act.put, List.getElem_toArray, List.getElem_cons_zero, List.getElem_cons_succ, List.setIfInBounds_toArray, List.set_cons_zero, List.set_cons_succ]
                    refine wpAnyH_done (by kernel_rfl) ?_ _
                    have hbq2 : Below w.heap.size w y1 := hbq.trans (q1.mono hbq.size)
                    go_wp2_with fail
                    go_roundw
                    case rel => exact ⟨j + 1, by go_num, by omega, by rw [HN2.out], hbq2⟩
                    case measure => simp [RowKit.intOf]; omega
                  · have HN2 : Hid (hullS P i k (j + 1) = true) := by unfold Hid; rw [HSS.out, hz]; rfl
                    rw [hz]
                    clear hz HSS HB1
                    go_upto_region 14 with fail
                    refine wp_region_held_drew (S := (fun w' => True)) (by kernel_rfl) ?_ (fun hHeld => ?_)
                    · trivial
                    refine wpAnyH_take (i := 0) (oi := _) (v := ?_) rfl (by kernel_rfl) (by kernel_rfl) (by kernel_rfl) (fun _ _ _ h => h) (Or.inl ⟨by rfl, ?_⟩) (by assumption) ?_
                    rotate_left
                    · intro w hSw; (try dsimp only at hSw); first | (go_simp; done) | (go_simp; with_reducible rfl)
                    try simp only [Act.put, List.getElem_toArray, List.getElem_cons_zero, List.setIfInBounds_toArray, List.set_cons_zero, List.set_cons_succ]
                    refine wpAnyH_take (i := 1) (oi := _) (v := ?_) rfl (by kernel_rfl) (by kernel_rfl) (by kernel_rfl) (fun _ _ _ h => h) (Or.inl ⟨by rfl, ?_⟩) (by assumption) ?_
                    rotate_left
                    · intro w hSw; (try dsimp only at hSw); first | (go_simp; done) | (go_simp; with_reducible rfl)
                    try simp only [Act.put, List.getElem_toArray, List.getElem_cons_zero, List.getElem_cons_succ, List.setIfInBounds_toArray, List.set_cons_zero, List.set_cons_succ]
                    refine wpAnyH_take (i := 2) (oi := _) (v := ?_) rfl (by kernel_rfl) (by kernel_rfl) (by kernel_rfl) (fun _ _ _ h => h) (Or.inl ⟨by rfl, ?_⟩) (by assumption) ?_
                    rotate_left
                    · intro w hSw; (try dsimp only at hSw); first | (go_simp; done) | (go_simp; with_reducible rfl)
                    try simp only [Act.put, List.getElem_toArray, List.getElem_cons_zero, List.getElem_cons_succ, List.setIfInBounds_toArray, List.set_cons_zero, List.set_cons_succ]
                    refine wpAnyH_take (i := 3) (oi := _) (v := ?_) rfl (by kernel_rfl) (by kernel_rfl) (by kernel_rfl) (fun _ _ _ h => h) (Or.inl ⟨by rfl, ?_⟩) (by assumption) ?_
                    rotate_left
                    · intro w hSw; (try dsimp only at hSw); first | (go_simp; done) | (go_simp; with_reducible rfl)
                    try simp only [Act.put, List.getElem_toArray, List.getElem_cons_zero, List.getElem_cons_succ, List.setIfInBounds_toArray, List.set_cons_zero, List.set_cons_succ]
                    refine wpAnyH_take (i := 4) (oi := _) (v := ?_) rfl (by kernel_rfl) (by kernel_rfl) (by kernel_rfl) (fun _ _ _ h => h) (Or.inl ⟨by rfl, ?_⟩) (by assumption) ?_
                    rotate_left
                    · intro w hSw; (try dsimp only at hSw); first | (go_simp; done) | (go_simp; with_reducible rfl)
                    try simp only [Act.put, List.getElem_toArray, List.getElem_cons_zero, List.getElem_cons_succ, List.setIfInBounds_toArray, List.set_cons_zero, List.set_cons_succ]
                    refine wpAnyH_take (i := 5) (oi := _) (v := undef) rfl (by kernel_rfl) (by kernel_rfl) (by kernel_rfl) (fun _ _ _ h => h) (Or.inr ⟨by rfl, rfl⟩) (by assumption) ?_
                    try simp only [Act.put, List.getElem_toArray, List.getElem_cons_zero, List.getElem_cons_succ, List.setIfInBounds_toArray, List.set_cons_zero, List.set_cons_succ]
                    refine wpAnyH_take (i := 6) (oi := _) (v := undef) rfl (by kernel_rfl) (by kernel_rfl) (by kernel_rfl) (fun _ _ _ h => h) (Or.inr ⟨by rfl, rfl⟩) (by assumption) ?_
                    try simp only [Act.put, List.getElem_toArray, List.getElem_cons_zero, List.getElem_cons_succ, List.setIfInBounds_toArray, List.set_cons_zero, List.set_cons_succ]
                    refine wpAnyH_take (i := 7) (oi := _) (v := undef) rfl (by kernel_rfl) (by kernel_rfl) (by kernel_rfl) (fun _ _ _ h => h) (Or.inr ⟨by rfl, rfl⟩) (by assumption) ?_
                    try simp only [Act.put, List.getElem_toArray, List.getElem_cons_zero, List.getElem_cons_succ, List.setIfInBounds_toArray, List.set_cons_zero, List.set_cons_succ]
                    refine wpAnyH_take (i := 8) (oi := _) (v := undef) rfl (by kernel_rfl) (by kernel_rfl) (by kernel_rfl) (fun _ _ _ h => h) (Or.inr ⟨by rfl, rfl⟩) (by assumption) ?_
                    try simp only [Act.put, List.getElem_toArray, List.getElem_cons_zero, List.getElem_cons_succ, List.setIfInBounds_toArray, List.set_cons_zero, List.set_cons_succ]
                    refine wpAnyH_take (i := 9) (oi := _) (v := undef) rfl (by kernel_rfl) (by kernel_rfl) (by kernel_rfl) (fun _ _ _ h => h) (Or.inr ⟨by rfl, rfl⟩) (by assumption) ?_
                    try simp only [Act.put, List.getElem_toArray, List.getElem_cons_zero, List.getElem_cons_succ, List.setIfInBounds_toArray, List.set_cons_zero, List.set_cons_succ]
                    refine wpAnyH_take (i := 10) (oi := _) (v := undef) rfl (by kernel_rfl) (by kernel_rfl) (by kernel_rfl) (fun _ _ _ h => h) (Or.inr ⟨by rfl, rfl⟩) (by assumption) ?_
                    try simp only [Act.put, List.getElem_toArray, List.getElem_cons_zero, List.getElem_cons_succ, List.setIfInBounds_toArray, List.set_cons_zero, List.set_cons_succ]
                    refine wpAnyH_take (i := 11) (oi := _) (v := undef) rfl (by kernel_rfl) (by kernel_rfl) (by kernel_rfl) (fun _ _ _ h => h) (Or.inr ⟨by rfl, rfl⟩) (by assumption) ?_
                    try simp only [Act.put, List.getElem_toArray, List.getElem_cons_zero, List.getElem_cons_succ, List.setIfInBounds_toArray, List.set_cons_zero, List.set_cons_succ]
                    refine wpAnyH_take (i := 12) (oi := _) (v := undef) rfl (by kernel_rfl) (by kernel_rfl) (by kernel_rfl) (fun _ _ _ h => h) (Or.inr ⟨by rfl, rfl⟩) (by assumption) ?_
                    try simp only [Act.put, List.getElem_toArray, List.getElem_cons_zero, List.getElem_cons_succ, List.setIfInBounds_toArray, List.set_cons_zero, List.set_cons_succ]
                    refine wpAnyH_take (i := 13) (oi := _) (v := undef) rfl (by kernel_rfl) (by kernel_rfl) (by kernel_rfl) (fun _ _ _ h => h) (Or.inr ⟨by rfl, rfl⟩) (by assumption) ?_
                    try simp only [Act.put, List.getElem_toArray, List.getElem_cons_zero, List.getElem_cons_succ, List.setIfInBounds_toArray, List.set_cons_zero, List.set_cons_succ]
                    refine wpAnyH_take (i := 14) (oi := _) (v := undef) rfl (by kernel_rfl) (by kernel_rfl) (by kernel_rfl) (fun _ _ _ h => h) (Or.inr ⟨by rfl, rfl⟩) (by assumption) ?_
                    try simp only [Act.put, List.getElem_toArray, List.getElem_cons_zero, List.getElem_cons_succ, List.setIfInBounds_toArray, List.set_cons_zero, List.set_cons_succ]
                    refine wpAnyH_take (i := 15) (oi := _) (v := undef) rfl (by kernel_rfl) (by kernel_rfl) (by kernel_rfl) (fun _ _ _ h => h) (Or.inr ⟨by rfl, rfl⟩) (by assumption) ?_
                    try simp only [Act.put, List.getElem_toArray, List.getElem_cons_zero, List.getElem_cons_succ, List.setIfInBounds_toArray, List.set_cons_zero, List.set_cons_succ]
                    refine wpAnyH_take (i := 16) (oi := _) (v := undef) rfl (by kernel_rfl) (by kernel_rfl) (by kernel_rfl) (fun _ _ _ h => h) (Or.inr ⟨by rfl, rfl⟩) (by assumption) ?_
                    try simp only [Act.put, List.getElem_toArray, List.getElem_cons_zero, List.getElem_cons_succ, List.setIfInBounds_toArray, List.set_cons_zero, List.set_cons_succ]
                    refine wpAnyH_take (i := 17) (oi := _) (v := undef) rfl (by kernel_rfl) (by kernel_rfl) (by kernel_rfl) (fun _ _ _ h => h) (Or.inr ⟨by rfl, rfl⟩) (by assumption) ?_
                    try simp only [Act.put, List.getElem_toArray, List.getElem_cons_zero, List.getElem_cons_succ, List.setIfInBounds_toArray, List.set_cons_zero, List.set_cons_succ]
                    refine wpAnyH_take (i := 18) (oi := _) (v := undef) rfl (by kernel_rfl) (by kernel_rfl) (by kernel_rfl) (fun _ _ _ h => h) (Or.inr ⟨by rfl, rfl⟩) (by assumption) ?_
                    try simp only [Act.put, List.getElem_toArray, List.getElem_cons_zero, List.getElem_cons_succ, List.setIfInBounds_toArray, List.set_cons_zero, List.set_cons_succ]
                    refine wpAnyH_take (i := 19) (oi := _) (v := undef) rfl (by kernel_rfl) (by kernel_rfl) (by kernel_rfl) (fun _ _ _ h => h) (Or.inr ⟨by rfl, rfl⟩) (by assumption) ?_
                    try simp only [Act.put, List.getElem_toArray, List.getElem_cons_zero, List.getElem_cons_succ, List.setIfInBounds_toArray, List.set_cons_zero, List.set_cons_succ]
                    refine wpAnyH_ready (rs := [20]) (by kernel_rfl) (by simp) ?_
                    refine AllReadyH.cons (o := _) rfl (fun K hK => ?_) AllReadyH.nil
                    go_simp
                    refine hK.out _ _ (by assumption) (fun hHeld => ?_)
                    clear hK K
                    try simp only [Act.put, List.getElem_toArray, List.getElem_cons_zero, List.getElem_cons_succ, List.setIfInBounds_toArray, List.set_cons_zero, List.set_cons_succ]
                    refine wpAnyH_take (i := 21) (oi := _) (v := undef) rfl (by kernel_rfl) (by kernel_rfl) (by kernel_rfl) (fun _ _ _ h => h) (Or.inr ⟨by rfl, rfl⟩) (by assumption) ?_
                    try simp only [Act.put, List.getElem_toArray, List.getElem_cons_zero, List.getElem_cons_succ, List.setIfInBounds_toArray, List.set_cons_zero, List.set_cons_succ]
                    refine wpAnyH_take (i := 22) (oi := _) (v := ?_) rfl (by kernel_rfl) (by kernel_rfl) (by kernel_rfl) (fun _ _ _ h => h) (Or.inl ⟨by rfl, ?_⟩) (by assumption) ?_
                    rotate_left
                    · intro w hSw; (try dsimp only at hSw); first | (go_simp; done) | (go_simp; with_reducible rfl)
                    try simp only [Act.put, List.getElem_toArray, List.getElem_cons_zero, List.getElem_cons_succ, List.setIfInBounds_toArray, List.set_cons_zero, List.set_cons_succ]
                    refine wpAnyH_take (i := 23) (oi := _) (v := ?_) rfl (by kernel_rfl) (by kernel_rfl) (by kernel_rfl) (fun _ _ _ h => h) (Or.inl ⟨by rfl, ?_⟩) (by assumption) ?_
                    rotate_left
                    · intro w hSw; (try dsimp only at hSw); first | (go_simp; done) | (go_simp; with_reducible rfl)
                    try simp only [Act.put, List.getElem_toArray, List.getElem_cons_zero, List.getElem_cons_succ, List.setIfInBounds_toArray, List.set_cons_zero, List.set_cons_succ]
                    refine wpAnyH_take (i := 24) (oi := _) (v := ?_) rfl (by kernel_rfl) (by kernel_rfl) (by kernel_rfl) (fun _ _ _ h => h) (Or.inl ⟨by rfl, ?_⟩) (by assumption) ?_
                    rotate_left
                    · intro w hSw; (try dsimp only at hSw); first | (go_simp; done) | (go_simp; with_reducible rfl)
                    try simp only [Act.put, List.getElem_toArray, List.getElem_cons_zero, List.getElem_cons_succ, List.setIfInBounds_toArray, List.set_cons_zero, List.set_cons_succ]
                    refine wpAnyH_done (by kernel_rfl) ?_ _
                    go_wp2_with fail
                    go_roundw
                    case rel => exact ⟨j + 1, by go_num, by omega, by rw [HN2.out], hbq1⟩
                    case measure => simp [RowKit.intOf]; omega
              · have hjn : ¬ (j : Int) < (P.length : Int) := by omega
                have HSR : Hid (hullR P i (k + 1) (hullN P i) = if hullS P i k j = true then hullR P i k (hullN P i) + areaQ (ptI P 0) (ptI P i) (ptI P k) else hullR P i k (hullN P i)) := by
                  unfold Hid
                  rw [hullR_succ, show j = P.length by omega]
                  by_cases h : hullS P i k P.length = true
                  · rw [if_pos ⟨hik, h⟩, if_pos h]
                  · rw [if_neg (fun x => h x.2), if_neg h]
                have hsum := HN.out i k (by omega) (by omega)
                have harea := HAZ.out 0 i k
                have HO1 : Hid (∀ w, Good w → _) := fun w hg => HOR.out 0 i k w hg
                have a0 := (hbj.cell (p := ⟨bp, op + 0 * 2, none⟩) hbp).trans (HC.out 0 h0).1
                have a1 := (hbj.cell (p := ⟨bp, op + 0 * 2 + 1, none⟩) hbp).trans (HC.out 0 h0).2
                have a2 := (hbj.cell (p := ⟨bp, op + i * 2, none⟩) hbp).trans (HC.out i h).1
                have a3 := (hbj.cell (p := ⟨bp, op + i * 2 + 1, none⟩) hbp).trans (HC.out i h).2
                have a4 := (hbj.cell (p := ⟨bp, op + k * 2, none⟩) hbp).trans (HC.out k h2).1
                have a5 := (hbj.cell (p := ⟨bp, op + k * 2 + 1, none⟩) hbp).trans (HC.out k h2).2
                rw [Nat.zero_mul, Nat.add_zero] at a0 a1
                have hbpr : bp < wr.heap.size := Nat.lt_of_lt_of_le hbp hbj.size
                have hgd : Good wr.drew := (hg.below hbj).drewN 1
                have h0z : (0 : Int) < (P.length : Int) := by omega
                have HADD : Hid (∀ w, Good w → _) := fun w hg => ratAdd_any (hullR P i k (hullN P i)) (areaQ (ptI P 0) (ptI P i) (ptI P k)) 3000 (by omega) (by omega) hsum (harea.mono (by omega)) w hg
                clear hsum harea
                generalize hullS P i k j = sd at *
                generalize hullR P i k (hullN P i) = hr at *
                generalize areaQ (ptI P 0) (ptI P i) (ptI P k) = ar at *
                rw [show ((0 : Nat) : Int) = 0 from rfl] at a0 a1
                generalize ptI P 0 = p0 at *
                generalize ptI P (i : Int) = p1 at *
                generalize ptI P (k : Int) = p2 at *
                cases sd with
                | false =>
                  have HR2 : Hid (hullR P i (k + 1) (hullN P i) = hr) := by unfold Hid; rw [HSR.out]; rfl
                  clear a0 a1 a2 a3 a4 a5 HSR hgd
                  go_wp2_with fail
                  go_roundw
                  case rel => exact ⟨k + 1, by go_num, by omega, by rw [HR2.out], hbj⟩
                  case measure => simp [RowKit.intOf]; omega
                | true =>
                  have HR2 : Hid (hullR P i (k + 1) (hullN P i) = hr + ar) := by unfold Hid; rw [HSR.out]; rfl
                  clear HSR
                  go_wp2_with fail
                  go_region_held3 (fun w' => w'.cell? ⟨bp, op, none⟩ = some (.string (RS p0.1)) ∧ w'.cell? ⟨bp, op + 1, none⟩ = some (.string (RS p0.2)) ∧ w'.cell? ⟨bp, op + i * 2, none⟩ = some (.string (RS p1.1)) ∧ w'.cell? ⟨bp, op + i * 2 + 1, none⟩ = some (.string (RS p1.2)) ∧ w'.cell? ⟨bp, op + k * 2, none⟩ = some (.string (RS p2.1)) ∧ w'.cell? ⟨bp, op + k * 2 + 1, none⟩ = some (.string (RS p2.2)))
                    (first | exact ⟨a0, a1, a2, a3, a4, a5⟩ | exact ⟨p_1_0, p_1_1, p_1_2, p_1_3, p_1_4, p_1_5⟩ | exact ⟨p_2_0, p_2_1, p_2_2, p_2_3, p_2_4, p_2_5⟩)
                    (first
                    | (go_at_call 49; refine (HADD.out _ pg1).mono ?_; rintro e pw2 ⟨_, rfl, rfl, pb2⟩
                       have p_2_0 := (pb2.cell (p := ⟨bp, op, none⟩) (by show bp < pw1.heap.size; omega)).trans p_1_0
                       have p_2_1 := (pb2.cell (p := ⟨bp, op + 1, none⟩) (by show bp < pw1.heap.size; omega)).trans p_1_1
                       have p_2_2 := (pb2.cell (p := ⟨bp, op + i * 2, none⟩) (by show bp < pw1.heap.size; omega)).trans p_1_2
                       have p_2_3 := (pb2.cell (p := ⟨bp, op + i * 2 + 1, none⟩) (by show bp < pw1.heap.size; omega)).trans p_1_3
                       have p_2_4 := (pb2.cell (p := ⟨bp, op + k * 2, none⟩) (by show bp < pw1.heap.size; omega)).trans p_1_4
                       have p_2_5 := (pb2.cell (p := ⟨bp, op + k * 2 + 1, none⟩) (by show bp < pw1.heap.size; omega)).trans p_1_5
                       have ps2 : pw1.heap.size ≤ pw2.heap.size := pb2.size
                       have pg2 : Good pw2 := pg1.below pb2)
                    | (go_at_call 62; refine (HO1.out _ hgd).mono ?_; rintro e pw1 ⟨_, rfl, rfl, pb1⟩
                       have p_1_0 := (pb1.cell (p := ⟨bp, op, none⟩) (by show bp < wr.heap.size; omega)).trans a0
                       have p_1_1 := (pb1.cell (p := ⟨bp, op + 1, none⟩) (by show bp < wr.heap.size; omega)).trans a1
                       have p_1_2 := (pb1.cell (p := ⟨bp, op + i * 2, none⟩) (by show bp < wr.heap.size; omega)).trans a2
                       have p_1_3 := (pb1.cell (p := ⟨bp, op + i * 2 + 1, none⟩) (by show bp < wr.heap.size; omega)).trans a3
                       have p_1_4 := (pb1.cell (p := ⟨bp, op + k * 2, none⟩) (by show bp < wr.heap.size; omega)).trans a4
                       have p_1_5 := (pb1.cell (p := ⟨bp, op + k * 2 + 1, none⟩) (by show bp < wr.heap.size; omega)).trans a5
                       have ps1 : wr.heap.size ≤ pw1.heap.size := pb1.size
                       have pg1 : Good pw1 := hgd.below pb1))
                  have pB : Below wr.heap.size wr pw2 := (((below_drewN wr 1).trans (pb1.mono (by show wr.heap.size ≤ wr.heap.size; omega))).trans (pb2.mono (by show wr.heap.size ≤ pw1.heap.size; omega)))
                  have hbq := hbj.trans (pB.mono hbj.size)
                  go_wp2_with fail
                  go_roundw
                  case rel => exact ⟨k + 1, by go_num, by omega, by rw [HR2.out], hbq⟩
                  case measure => simp [RowKit.intOf]; omega
        · have hkn : ¬ (k : Int) < (P.length : Int) := by omega
          have HK : Hid (k = P.length) := by unfold Hid; omega
          go_wp2_with fail
          go_roundw
          case rel => exact ⟨i + 1, by go_num, by omega, by rw [HK.out]; rfl, hbk⟩
          case measure => simp [RowKit.intOf]; omega
    · have hin : ¬ (i : Int) < (P.length : Int) := by omega
      have HFIN : Hid (hullN P i = hullN P P.length) := by unfold Hid; rw [show i = P.length by omega]
      rw [HFIN.out]
      go_wp2_with fail
      go_ret
      exact ⟨_, rfl, rfl, hbr⟩

end Go.Proofs.YtdhcliekejiegaaGreatDoor

namespace Go.Proofs.YtdhcliekejiegaaGreatDoor
open Go.RowKit Go.Lib

theorem dotQ_move (s t d : Rat) (a b p : PtQ) : dotQ (moveP s t d a) (moveP s t d b) (moveP s t d p) = d * d * dotQ a b p := by
  unfold dotQ moveP
  grind
theorem nn_move (d q : Rat) (hd : 0 < d) : decide (0 ≤ d * d * q) = decide (0 ≤ q) := by
  have h := Rat.mul_pos hd hd
  generalize d * d = e at *
  refine decide_eq_decide.2 ⟨fun h1 => Rat.not_lt.1 fun h2 => ?_, fun h1 => Rat.mul_nonneg (Rat.le_of_lt h) h1⟩
  have := Rat.mul_pos h (show (0 : Rat) < -q by grind)
  grind
theorem betweenB_move (s t d : Rat) (hd : 0 < d) (a b p : PtQ) : betweenB (moveP s t d a) (moveP s t d b) (moveP s t d p) = betweenB a b p := by
  unfold betweenB
  rw [dotQ_move, dotQ_move, nn_move _ _ hd, nn_move _ _ hd]
theorem ptI_move (s t d : Rat) (P : List PtQ) (z : Nat) (h : z < P.length) : ptI (P.map (moveP s t d)) (z : Int) = moveP s t d (ptI P (z : Int)) := by
  unfold ptI
  exact getD_move _ _ _ _ _ (by simpa using h)
theorem hullJ_move (s t d : Rat) (hd : 0 < d) (P : List PtQ) (i k j : Nat) (hi : i < P.length) (hk : k < P.length) (hj : j < P.length) : hullJ (P.map (moveP s t d)) i k j = hullJ P i k j := by
  unfold hullJ
  rw [ptI_move _ _ _ _ _ hi, ptI_move _ _ _ _ _ hk, ptI_move _ _ _ _ _ hj, turnZ_move _ _ _ hd, betweenB_move _ _ _ hd]
theorem hullS_move (s t d : Rat) (hd : 0 < d) (P : List PtQ) (i k n : Nat) (hi : i < P.length) (hk : k < P.length) (hn : n ≤ P.length) : hullS (P.map (moveP s t d)) i k n = hullS P i k n := by
  unfold hullS
  rw [Bool.eq_iff_iff, List.all_eq_true, List.all_eq_true]
  constructor
  · intro h j hj
    rw [← hullJ_move s t d hd P i k j hi hk (by have := List.mem_range.1 hj; omega)]
    exact h j hj
  · intro h j hj
    rw [hullJ_move s t d hd P i k j hi hk (by have := List.mem_range.1 hj; omega)]
    exact h j hj
theorem hullR_move (s t d : Rat) (hd : 0 < d) (P : List PtQ) (i k : Nat) (r : Rat) (hi : i < P.length) (hk : k ≤ P.length) : hullR (P.map (moveP s t d)) i k (d * d * r) = d * d * hullR P i k r := by
  induction k with
  | zero => rfl
  | succ k ih =>
    have ih := ih (by omega)
    show (if i ≠ k ∧ hullS (P.map (moveP s t d)) i k (P.map (moveP s t d)).length = true then hullR (P.map (moveP s t d)) i k (d * d * r) + areaQ (ptI (P.map (moveP s t d)) ((0 : Nat) : Int)) (ptI (P.map (moveP s t d)) i) (ptI (P.map (moveP s t d)) k) else hullR (P.map (moveP s t d)) i k (d * d * r)) = d * d * (if i ≠ k ∧ hullS P i k P.length = true then hullR P i k r + areaQ (ptI P ((0 : Nat) : Int)) (ptI P i) (ptI P k) else hullR P i k r)
    rw [List.length_map, hullS_move s t d hd P i k _ hi (by omega) (Nat.le_refl _), ih, ptI_move _ _ _ _ _ (by omega), ptI_move _ _ _ _ _ hi, ptI_move _ _ _ _ _ (show k < P.length by omega), areaQ_move]
    split <;> grind
theorem hullN_move (s t d : Rat) (hd : 0 < d) (P : List PtQ) (n : Nat) (hn : n ≤ P.length) : hullN (P.map (moveP s t d)) n = d * d * hullN P n := by
  induction n with
  | zero => show (0 : Rat) = d * d * 0; grind
  | succ n ih =>
    show hullR (P.map (moveP s t d)) n (P.map (moveP s t d)).length (hullN (P.map (moveP s t d)) n) = d * d * hullR P n P.length (hullN P n)
    rw [List.length_map, ih (by omega), hullR_move s t d hd P n P.length _ (by omega) (Nat.le_refl _)]

/-- All that the law wants of a sheet. -/
structure EdgF (P : List PtQ) (T : List Tri) (c : List Int) : Prop where
  hull : hullN P P.length = sumA P T T.length
  edges : edgeLw T P.length = edgesL (keysOf T)
  pos : 0 < c.length
  len : c.length ≤ 6
  nodup : c.Nodup
  rng : ∀ x ∈ c, 0 ≤ x ∧ x < (P.length : Int)
  next : ∀ i, i < c.length → nextI T (cycI c i) P.length = cycI c ((i + 1) % c.length)
  low : ∀ u : Nat, (u : Int) < cycI c 0 → ∀ v : Nat, v < P.length → bordB T (u : Int) (v : Int) = false
  first : ∃ v : Nat, v < P.length ∧ bordB T (cycI c 0) (v : Int) = true
  turns : ∀ i, i < c.length → 0 ≤ turnZ (ptI P (cycI c ((i + c.length - 1) % c.length))) (ptI P (cycI c i)) (ptI P (cycI c ((i + 1) % c.length)))
theorem cycI_in {c : List Int} {n : Nat} (hr : ∀ x ∈ c, 0 ≤ x ∧ x < (n : Int)) {i : Nat} (hi : i < c.length) : ∃ q : Nat, cycI c i = (q : Int) ∧ q < n :=
  have ⟨q, h1, h2, _⟩ := cyc_at hr hi
  ⟨q, h1, h2⟩
theorem edg_facts (kk : Nat) (s0 s1 : Int) (half : Bool) (P : List PtQ) (hP : P = sheetP kk s0 s1 half) (T : List Tri) (hT : T = shapeT kk) : EdgF P T (outerL (keysOf T)) := by
  have h := edg_shape kk
  have hm := sheet_ok kk s0 s1 half
  have hmv := sheetP_move kk s0 s1 half
  rw [← hT] at h hm
  rw [hmv] at hm hP
  rw [hP]
  clear hP hT hmv
  have hd : (0 : Rat) < 1 / (halfD half : Rat) := by cases half <;> decide +kernel
  generalize shapeQ kk = P0 at *
  generalize (1 / (halfD half : Rat)) = d at *
  generalize ((s0.tmod 8 : Int) : Rat) = x at *
  generalize ((s1.tmod 8 : Int) : Rat) = y at *
  have hlen : (P0.map (moveP x y d)).length = P0.length := List.length_map _
  have hidx := hm.idx
  rw [hlen] at hidx
  unfold edgB at h
  simp only [List.all_cons, List.all_nil, Bool.and_true, Bool.and_eq_true, decide_eq_true_eq, List.all_eq_true, List.any_eq_true, List.mem_range, Bool.not_eq_true'] at h
  obtain ⟨h1, h2, h3, h3b, h4, h5, h6, h7, ⟨v, hv, h8⟩, h9⟩ := h
  have hmod : ∀ i, i % (outerL (keysOf T)).length < (outerL (keysOf T)).length := fun i => Nat.mod_lt _ h3
  refine ⟨?_, by rw [hlen]; exact h2, h3, h3b, h4, by rw [hlen]; exact h5, by rw [hlen]; exact h6, ?_, ⟨v, by rw [hlen]; exact hv, h8⟩, ?_⟩
  · rw [hlen, hullN_move _ _ _ hd _ _ (Nat.le_refl _), sumA_move _ _ _ _ _ hidx, h1]
  · intro u hu v hv
    rw [hlen] at hv
    exact h7 u (by omega) v hv
  · intro i hi
    obtain ⟨q0, e0, l0⟩ := cycI_in h5 (hmod (i + (outerL (keysOf T)).length - 1))
    obtain ⟨q1, e1, l1⟩ := cycI_in h5 hi
    obtain ⟨q2, e2, l2⟩ := cycI_in h5 (hmod (i + 1))
    have := h9 i hi
    rw [e0, e1, e2] at this ⊢
    rw [ptI_move _ _ _ _ _ l0, ptI_move _ _ _ _ _ l1, ptI_move _ _ _ _ _ l2, turnZ_move _ _ _ hd]
    exact this

/-- The edges behind the first n rows and the first m places of row n. -/
def edgRow (T : List Tri) (u m : Nat) : List Edge := ((List.range m).filter fun v : Nat => decide (u < v) && !(decide (sideI T (u : Int) (v : Int) < 0) && decide (sideI T (v : Int) (u : Int) < 0))).map fun v : Nat => ((u : Int), (v : Int))
def edgPre (T : List Tri) (n u : Nat) : List Edge := (List.range u).flatMap fun u : Nat => edgRow T u n
theorem edgPre_succ (T : List Tri) (n u : Nat) : edgPre T n (u + 1) = edgPre T n u ++ edgRow T u n := by
  unfold edgPre; rw [List.range_succ, List.flatMap_append]; simp
theorem edgRow_succ (T : List Tri) (u m : Nat) : edgRow T u (m + 1) = edgRow T u m ++ if u < m ∧ ¬ (sideI T (u : Int) (m : Int) < 0 ∧ sideI T (m : Int) (u : Int) < 0) then [((u : Int), (m : Int))] else [] := by
  unfold edgRow
  rw [List.range_succ, List.filter_append, List.map_append]
  congr 1
  by_cases h : u < m ∧ ¬ (sideI T (u : Int) (m : Int) < 0 ∧ sideI T (m : Int) (u : Int) < 0)
  · rw [if_pos h, List.filter_cons_of_pos]
    · rfl
    · rw [Bool.and_eq_true, decide_eq_true_eq, Bool.not_eq_true', Bool.and_eq_false_iff, decide_eq_false_iff_not, decide_eq_false_iff_not]
      exact ⟨h.1, Decidable.not_and_iff_or_not.1 h.2⟩
  · rw [if_neg h, List.filter_cons_of_neg]
    · rfl
    · rw [Bool.and_eq_true, decide_eq_true_eq, Bool.not_eq_true', Bool.and_eq_false_iff, decide_eq_false_iff_not, decide_eq_false_iff_not]
      exact fun h2 => h ⟨h2.1, Decidable.not_and_iff_or_not.2 h2.2⟩
theorem edgRow_low (T : List Tri) (u m : Nat) (h : m ≤ u + 1) : edgRow T u m = [] := by
  induction m with
  | zero => rfl
  | succ m ih => rw [edgRow_succ, ih (by omega), if_neg (fun h2 => by omega)]; rfl
theorem edgRow_len (T : List Tri) (u m : Nat) : (edgRow T u m).length ≤ m := by
  unfold edgRow
  rw [List.length_map]
  exact Nat.le_trans (List.length_filter_le _ _) (by rw [List.length_range]; exact Nat.le_refl _)
theorem edgPre_len (T : List Tri) (n u : Nat) : (edgPre T n u).length ≤ u * n := by
  induction u with
  | zero => show 0 ≤ _; omega
  | succ u ih => rw [edgPre_succ, List.length_append, Nat.succ_mul]; have := edgRow_len T u n; omega
/-- What is still to come. -/
theorem edgPre_part (T : List Tri) (n u : Nat) (h : u ≤ n) : ∃ L, edgeLw T n = edgPre T n u ++ L := by
  have key : ∀ k, ∃ L, (List.range (u + k)).flatMap (fun u : Nat => edgRow T u n) = edgPre T n u ++ L := fun k => by
    induction k with
    | zero => exact ⟨[], by rw [List.append_nil]; rfl⟩
    | succ k ih =>
      obtain ⟨L, hL⟩ := ih
      refine ⟨L ++ edgRow T (u + k) n, ?_⟩
      rw [← Nat.add_assoc, List.range_succ, List.flatMap_append, hL]
      simp
  obtain ⟨L, hL⟩ := key (n - u)
  rw [Nat.add_sub_cancel' h] at hL
  exact ⟨L, hL⟩
theorem edgRow_part (T : List Tri) (u m n : Nat) (h : m ≤ n) : ∃ L, edgRow T u n = edgRow T u m ++ L := by
  obtain ⟨k, rfl⟩ : ∃ k, n = m + k := ⟨n - m, by omega⟩
  clear h
  induction k with
  | zero => exact ⟨[], by rw [List.append_nil]; rfl⟩
  | succ k ih =>
    obtain ⟨L, hL⟩ := ih
    rw [← Nat.add_assoc, edgRow_succ, hL]
    exact ⟨_, List.append_assoc _ _ _⟩
/-- The next edge. -/
theorem edgPre_next (T : List Tri) (n u v : Nat) (hu : u < n) (hv : v < n) (huv : u < v) (h : ¬ (sideI T (u : Int) (v : Int) < 0 ∧ sideI T (v : Int) (u : Int) < 0)) : (edgeLw T n)[(edgPre T n u ++ edgRow T u v).length]? = some ((u : Int), (v : Int)) := by
  obtain ⟨L, hL⟩ := edgPre_part T n (u + 1) (by omega)
  obtain ⟨M, hM⟩ := edgRow_part T u (v + 1) n (by omega)
  rw [hL, edgPre_succ, hM, edgRow_succ, if_pos ⟨huv, h⟩]
  rw [show edgPre T n u ++ (edgRow T u v ++ [((u : Int), (v : Int))] ++ M) ++ L = (edgPre T n u ++ edgRow T u v) ++ (((u : Int), (v : Int)) :: (M ++ L)) by simp]
  rw [List.getElem?_append_right (Nat.le_refl _), Nat.sub_self]
  rfl

end Go.Proofs.YtdhcliekejiegaaGreatDoor

namespace Go.Proofs.YtdhcliekejiegaaGreatDoor
open Go.RowKit Go.Lib

theorem nextI_succ (T : List Tri) (a : Int) (n : Nat) : nextI T a (n + 1) = if bordB T a (n : Int) = true then (n : Int) else nextI T a n := by
  unfold nextI; rw [List.range_succ, List.foldl_append]; rfl
def anyB (T : List Tri) (u : Int) (n : Nat) : Bool := (List.range n).any fun v : Nat => bordB T u (v : Int)
theorem anyB_succ (T : List Tri) (u : Int) (n : Nat) : anyB T u (n + 1) = (anyB T u n || bordB T u (n : Int)) := by
  unfold anyB; rw [List.range_succ, List.any_append]; simp
/-- The first point behind a row, so far. -/
def fstI (T : List Tri) (u : Nat) (n : Nat) : Int := if anyB T (u : Int) n = true then (u : Int) else -1
theorem fstI_succ (T : List Tri) (u n : Nat) : fstI T u (n + 1) = if bordB T (u : Int) (n : Int) = true then (u : Int) else fstI T u n := by
  unfold fstI
  rw [anyB_succ]
  cases anyB T (u : Int) n <;> cases bordB T (u : Int) (n : Int) <;> simp
theorem fstI_end {P : List PtQ} {T : List Tri} {c : List Int} (h : EdgF P T c) {q : Nat} (hq : cycI c 0 = (q : Int)) (u : Nat) (hu : u ≤ q) : fstI T u P.length = if u = q then (u : Int) else -1 := by
  unfold fstI
  by_cases e : u = q
  · subst e
    obtain ⟨v, hv, hb⟩ := h.first
    rw [hq] at hb
    rw [if_pos rfl, if_pos]
    exact List.any_eq_true.2 ⟨v, List.mem_range.2 hv, hb⟩
  · rw [if_neg e, if_neg]
    intro hx
    obtain ⟨v, hv, hb⟩ := List.any_eq_true.1 hx
    have := h.low u (by rw [hq]; omega) v (List.mem_range.1 hv)
    rw [this] at hb
    cases hb
theorem cyc_ne {c : List Int} (hn : c.Nodup) {i : Nat} (h0 : 0 < i) (hi : i < c.length) : cycI c i ≠ cycI c 0 := by
  unfold cycI
  rw [List.getElem?_eq_getElem hi, List.getElem?_eq_getElem (by omega), Option.getD_some, Option.getD_some]
  exact fun e => (List.pairwise_iff_getElem.1 hn) 0 i (by omega) hi h0 e.symm
theorem take_succ_cyc {c : List Int} {i : Nat} (hi : i < c.length) : c.take (i + 1) = c.take i ++ [cycI c i] := by
  unfold cycI
  rw [List.take_succ_eq_append_getElem hi, List.getElem?_eq_getElem hi, Option.getD_some]

-- WHEN klippelaw12.border
set_option maxHeartbeats 8000000 in
set_option maxRecDepth 100000 in
theorem lborder_any (w : World) (vp vt : Value) (P : List PtQ) (T : List Tri) (c : List Int) (hp : RdP w vp (strP P)) (ht : RdT w vt T) (hsp : ∀ p ∈ P, SzP 2 p) (hP4 : P.length ≤ 400) (hT8 : T.length ≤ 800) (hF : EdgF P T c) (hg : Good w) :
    Calls Tryz.prog 17 #[.agg #[vp, vt]] w (Ret (fun r w' => ∃ va vb, r = .tuple #[va, vb] ∧ RdI .i64 w' va c ∧ RdI .i64 w' vb (cornL P c c.length)) w) := by
  obtain ⟨i0, hi, hz0, hz1, hz2⟩ := info_parts info_i64
  have hpos := hF.pos
  have hlen6 := hF.len
  obtain ⟨q, hq, hqP⟩ := cycI_in hF.rng hpos
  have HSS : Hid (∀ (u v : Int) (w' : World), Below w.heap.size w w' → Calls Tryz.prog 16 #[.agg #[vp, vt], .int .i64 u, .int .i64 v] w' (Ret (fun r _ => r = .int .i64 (sideI T u v)) w')) := fun u v w' hb => lsides_any w' vp vt (strP P) T (RdC.below hp hb) (RdC.below ht hb) (by omega) u v
  have HSZ : Hid (∀ z : Int, SzP 2 (ptI P z)) := fun z => ptI_szP hsp (by omega) z
  have HAN : Hid (∀ u : Nat, u ≤ q → fstI T u P.length = if u = q then (u : Int) else -1) := fun u hu => fstI_end hF hq u hu
  have HNX := Lib.hid hF.next
  have HTU := Lib.hid hF.turns
  have HR := Lib.hid hF.rng
  have HNE : Hid (∀ i, 0 < i → i < c.length → cycI c i ≠ (q : Int)) := fun i h0 h1 => by rw [← hq]; exact cyc_ne hF.nodup h0 h1
  have HQ := Lib.hid hq
  obtain ⟨pp, cp, rfl, -, -, hpc⟩ := hp.open
  obtain ⟨pt, ct, rfl, -, -, -⟩ := ht.open
  have HPC := Lib.hid hpc
  rw [strP_length] at *
  clear hp ht hsp hF hpc hq
  go_enter Tryz.func17, Tryz.ntmps17
  go_wp2_with fail
  obtain ⟨W, hW⟩ : ∃ W, W = w.alloc (.cells #[.slice pp P.length cp, .slice pt T.length ct] 30) := ⟨_, rfl⟩
  have hB : Below w.heap.size w W := by rw [hW]; exact (Below.refl _ _).alloc (Nat.le_refl _) _
  have b1 : BoxN W w.heap.size 30 [.slice pp P.length cp, .slice pt T.length ct] := by rw [hW]; exact BoxN.new _ _ _ _ rfl
  rw [← hW]
  clear hW
  go_loopw [4, 5] (fun t4 t5 wr => ∃ u : Nat, t5 = .int .i64 u ∧ u ≤ P.length ∧ ((t4 = .int .i64 (-1) ∧ u ≤ q) ∨ (t4 = .int .i64 (q : Int) ∧ u = q + 1)) ∧ Below W.heap.size W wr) (fun _ t5 _ => P.length - (RowKit.intOf t5).toNat)
  case atStart => exact ⟨0, rfl, Nat.zero_le _, .inl ⟨rfl, Nat.zero_le _⟩, Below.refl _ _⟩
  case round =>
    obtain ⟨u, rfl, hu, ⟨rfl, huq⟩ | ⟨rfl, huq⟩, hbr⟩ := hrel
    · have b1r := b1.below hbr b1.lt
      have m0 := b1r.cell 0 rfl
      have huz : (u : Int) < (P.length : Int) := by omega
      have HEND := Lib.hid (HAN.out u huq)
      obtain ⟨wo, hwo⟩ : ∃ wo : World, wo = wr := ⟨_, rfl⟩
      subst hwo
      go_wp2_with fail
      go_loopw [4, 6] (fun t4 t6 wr => ∃ v : Nat, t6 = .int .i64 v ∧ v ≤ P.length ∧ t4 = .int .i64 (fstI T u v) ∧ Below W.heap.size W wr) (fun _ t6 _ => P.length - (RowKit.intOf t6).toNat)
      case atStart => exact ⟨0, rfl, Nat.zero_le _, rfl, hbr⟩
      case round =>
        obtain ⟨v, rfl, hv, rfl, hbv⟩ := hrel
        clear hbr m0 b1r
        have b1v := b1.below hbv b1.lt
        have m0 := b1v.cell 0 rfl
        have m1 := b1v.cell 1 rfl
        have hBv := hB.trans (hbv.mono hB.size)
        rcases Nat.lt_or_ge v P.length with h2 | h2
        · have hvz : (v : Int) < (P.length : Int) := by omega
          have HN := Lib.hid (fstI_succ T u v)
          go_wp2_with fail
          refine (HSS.out u v _ hBv).mono ?_
          rintro e w1 ⟨_, rfl, rfl, hb1⟩
          have hbv1 := hbv.trans (hb1.mono hbv.size)
          have hBv1 := hBv.trans (hb1.mono hBv.size)
          have b11 := b1v.below hb1 b1v.lt
          clear m0 m1 hb1
          have m0 := b11.cell 0 rfl
          have m1 := b11.cell 1 rfl
          by_cases h3 : 0 ≤ sideI T (u : Int) (v : Int)
          · have h3d : decide (0 ≤ sideI T (u : Int) (v : Int)) = true := decide_eq_true h3
            go_wp2_with fail
            refine (HSS.out v u _ hBv1).mono ?_
            rintro e w2 ⟨_, rfl, rfl, hb2⟩
            have hbv2 := hbv1.trans (hb2.mono hbv1.size)
            clear m0 m1 hb2
            by_cases h4 : sideI T (v : Int) (u : Int) < 0
            · have h4d : decide (sideI T (v : Int) (u : Int) < 0) = true := decide_eq_true h4
              have HN2 : Hid (fstI T u (v + 1) = (u : Int)) := by
                unfold Hid; rw [HN.out, if_pos]; unfold bordB; rw [decide_eq_true h3, decide_eq_true h4]; rfl
              go_wp2_with fail
              go_roundw
              case rel => exact ⟨v + 1, by go_num, by omega, by rw [HN2.out], hbv2⟩
              case measure => simp [RowKit.intOf]; omega
            · have h4d : decide (sideI T (v : Int) (u : Int) < 0) = false := decide_eq_false h4
              have HN2 : Hid (fstI T u (v + 1) = fstI T u v) := by
                unfold Hid; rw [HN.out, if_neg]; unfold bordB; rw [decide_eq_true h3, decide_eq_false h4]; exact Bool.false_ne_true
              go_wp2_with fail
              go_roundw
              case rel => exact ⟨v + 1, by go_num, by omega, by rw [HN2.out], hbv2⟩
              case measure => simp [RowKit.intOf]; omega
          · have h3d : decide (0 ≤ sideI T (u : Int) (v : Int)) = false := decide_eq_false h3
            have HN2 : Hid (fstI T u (v + 1) = fstI T u v) := by
              unfold Hid; rw [HN.out, if_neg]; unfold bordB; rw [decide_eq_false h3, Bool.false_and]; exact Bool.false_ne_true
            go_wp2_with fail
            go_roundw
            case rel => exact ⟨v + 1, by go_num, by omega, by rw [HN2.out], hbv1⟩
            case measure => simp [RowKit.intOf]; omega
        · have hvn : ¬ (v : Int) < (P.length : Int) := by omega
          have HV : Hid (v = P.length) := by unfold Hid; omega
          go_wp2_with fail
          go_roundw
          case rel =>
            by_cases e : u = q
            · exact ⟨u + 1, by go_num, by omega, .inr ⟨by rw [HV.out, HEND.out, if_pos e, e], by omega⟩, hbv⟩
            · exact ⟨u + 1, by go_num, by omega, .inl ⟨by rw [HV.out, HEND.out, if_neg e], by omega⟩, hbv⟩
          case measure => simp [RowKit.intOf]; omega
    · have b1r := b1.below hbr b1.lt
      have m0 := b1r.cell 0 rfl
      have hqn : ¬ (q : Int) < 0 := by omega
      have hqd : decide ((q : Int) < 0) = false := decide_eq_false hqn
      have HUQ := Lib.hid huq
      clear huq
      have hBr := hB.trans (hbr.mono hB.size)
      go_upto_region 3 with fail
      go_cut [22] (fun s22 wx => s22 = .bool false ∧ Below wr.heap.size wr wx)
      case first =>
        rcases Nat.lt_or_ge u P.length with h | h
        · have huz : (u : Int) < (P.length : Int) := by omega
          go_wp2_with fail
          go_meet
          exact ⟨rfl, Below.refl _ _⟩
        · have hun : ¬ (u : Int) < (P.length : Int) := by omega
          go_wp2_with fail
          go_meet
          exact ⟨rfl, Below.refl _ _⟩
      case rest =>
      obtain ⟨rfl, hbc⟩ := hcut
      have b13 := b1r.below hbc b1r.lt
      have hBr := hBr.trans (hbc.mono hBr.size)
      obtain ⟨W3, hW3⟩ : ∃ W3, W3 = wc := ⟨_, rfl⟩
      subst hW3
      clear HAN hbr b1r b1 hB hu m0 hbc
      go_wp2_with fail
      go_loopw [2, 7] (fun t2 t7 wr => ∃ i : Nat, i ≤ c.length ∧ t7 = .int .i64 (cycI c (i % c.length)) ∧ wr.ownsRow W3.heap.size 3 1 t2 i ((c.take i).map (Value.int .i64)) ∧ Below W3.heap.size W3 wr) (fun t2 _ _ => c.length - (match t2 with | .slice _ n _ => n | _ => 0))
      case atStart => exact ⟨0, Nat.zero_le _, by rw [Nat.zero_mod, HQ.out], World.ownsRow_nil _ _ _ _, Below.refl _ _⟩
      case round =>
        obtain ⟨i, hic, rfl, hown, hbr⟩ := hrel
        have hB3 := hBr.trans (hbr.mono hBr.size)
        obtain ⟨p2, c2, rfl⟩ := ownsRow_shape hown
        rcases Nat.lt_or_ge i c.length with h | h
        · have him : i % c.length = i := Nat.mod_eq_of_lt h
          rw [him]
          have HTK := Lib.hid (take_succ_cyc h)
          have HN0 := Lib.hid (HNX.out i h)
          have HNEi := Lib.hid (HNE.out i)
          go_upto_region 11 with fail
          go_cut [53] (fun s53 wx => s53 = .bool true ∧ Below wr.heap.size wr wx)
          case first =>
            rcases Nat.eq_zero_or_pos i with h0 | h0
            · have hz : ((i : Int) == 0) = true := by simp [h0]
              have hz2 : (i : Int) = 0 := by omega
              clear HTK HN0 HNEi
              go_wp2_with fail
              go_meet
              exact ⟨rfl, Below.refl _ _⟩
            · have hz : ((i : Int) == 0) = false := beq_eq_false_iff_ne.2 (by omega)
              have hz2 : ¬ (i : Int) = 0 := by omega
              have hn1 := HNEi.out h0 h
              have hn2 : (cycI c i != (q : Int)) = true := by simpa using hn1
              clear HTK HN0 HNEi
              go_wp2_with fail
              go_meet
              exact ⟨rfl, Below.refl _ _⟩
          case rest =>
          obtain ⟨rfl, hbc⟩ := hcut
          have hown := World.ownsRow.belowAll hown hbc
          have hbr := hbr.trans (hbc.mono hbr.size)
          clear hbc
          obtain ⟨wr', hwr'⟩ : ∃ w', w' = wc := ⟨_, rfl⟩
          subst hwr'
          obtain ⟨x, hx⟩ : ∃ x, x = cycI c i := ⟨_, rfl⟩
          rw [← hx] at HTK HN0 ⊢
          clear hx HNEi
          go_upto_region 12 with fail
          go_wp2_with (at_builtin; refine wpList_append_own _ rfl _ _ 42 rfl W3.heap.size 3 i0 (.int .i64 0) 1 8 Tryz.underlying42 hi hz0 hz1 hz2 rfl (by decide) _ _ _ rfl (hown.alloc _) ⟨wr'.heap.size, 0, none⟩ 1 1 [.int .i64 x] rfl rfl (cell_one_i64 _ _ _) (one_cell_i64 _) (by unfold maxLen; omega) (by omega) (by have := hbr.size; simp; omega) ?_
                       intro v2 w2 hown2 hgrow2 _
                       have hb2 : Below W3.heap.size W3 w2 := (hbr.alloc hbr.size _).grown hgrow2 (by have := hbr.size; simp; omega) (fun j hj => (hown.lt j hj).1)
                       clear hgrow2)
          obtain ⟨p4, c4, rfl⟩ := ownsRow_shape hown2
          clear hown hbr hB3
          have hBw := hBr.trans (hb2.mono hBr.size)
          have hb1w := b13.below hb2 b13.lt
          go_loopw [8, 9] (fun t8 t9 wr => ∃ v : Nat, t9 = .int .i64 v ∧ v ≤ P.length ∧ t8 = .int .i64 (nextI T x v) ∧ Below w2.heap.size w2 wr) (fun _ t9 _ => P.length - (RowKit.intOf t9).toNat)
          case atStart => exact ⟨0, rfl, Nat.zero_le _, rfl, Below.refl _ _⟩
          case round =>
            obtain ⟨v, rfl, hv, rfl, hbv⟩ := hrel
            have b1v := hb1w.below hbv hb1w.lt
            have m0 := b1v.cell 0 rfl
            have m1 := b1v.cell 1 rfl
            have hBv := hBw.trans (hbv.mono hBw.size)
            rcases Nat.lt_or_ge v P.length with h2 | h2
            · have hvz : (v : Int) < (P.length : Int) := by omega
              have HN := Lib.hid (nextI_succ T x v)
              clear HTK HN0
              go_wp2_with fail
              refine (HSS.out x v _ hBv).mono ?_
              rintro e w4 ⟨_, rfl, rfl, hb4⟩
              have hbv4 := hbv.trans (hb4.mono hbv.size)
              have hBv4 := hBv.trans (hb4.mono hBv.size)
              have b14 := b1v.below hb4 b1v.lt
              clear m0 m1 hb4
              have m0 := b14.cell 0 rfl
              have m1 := b14.cell 1 rfl
              by_cases h3 : 0 ≤ sideI T x (v : Int)
              · have h3d : decide (0 ≤ sideI T x (v : Int)) = true := decide_eq_true h3
                go_wp2_with fail
                refine (HSS.out v x _ hBv4).mono ?_
                rintro e w5 ⟨_, rfl, rfl, hb5⟩
                have hbv5 := hbv4.trans (hb5.mono hbv4.size)
                clear m0 m1 hb5
                by_cases h4 : sideI T (v : Int) x < 0
                · have h4d : decide (sideI T (v : Int) x < 0) = true := decide_eq_true h4
                  have HN2 : Hid (nextI T x (v + 1) = (v : Int)) := by
                    unfold Hid; rw [HN.out, if_pos]; unfold bordB; rw [decide_eq_true h3, decide_eq_true h4]; rfl
                  go_wp2_with fail
                  go_roundw
                  case rel => exact ⟨v + 1, by go_num, by omega, by rw [HN2.out], hbv5⟩
                  case measure => simp [RowKit.intOf]; omega
                · have h4d : decide (sideI T (v : Int) x < 0) = false := decide_eq_false h4
                  have HN2 : Hid (nextI T x (v + 1) = nextI T x v) := by
                    unfold Hid; rw [HN.out, if_neg]; unfold bordB; rw [decide_eq_true h3, decide_eq_false h4]; exact Bool.false_ne_true
                  go_wp2_with fail
                  go_roundw
                  case rel => exact ⟨v + 1, by go_num, by omega, by rw [HN2.out], hbv5⟩
                  case measure => simp [RowKit.intOf]; omega
              · have h3d : decide (0 ≤ sideI T x (v : Int)) = false := decide_eq_false h3
                have HN2 : Hid (nextI T x (v + 1) = nextI T x v) := by
                  unfold Hid; rw [HN.out, if_neg]; unfold bordB; rw [decide_eq_false h3, Bool.false_and]; exact Bool.false_ne_true
                go_wp2_with fail
                go_roundw
                case rel => exact ⟨v + 1, by go_num, by omega, by rw [HN2.out], hbv4⟩
                case measure => simp [RowKit.intOf]; omega
            · have hvn : ¬ (v : Int) < (P.length : Int) := by omega
              have HV : Hid (v = P.length) := by unfold Hid; omega
              have hown4 := World.ownsRow.belowAll hown2 hbv
              have HO : Hid (wr.ownsRow W3.heap.size 3 1 (.slice p4 (i + 1) c4) (i + 1) ((c.take (i + 1)).map (Value.int .i64))) := by
                unfold Hid; rw [HTK.out, List.map_append]; exact hown4
              clear hown2 hown4 HTK
              go_wp2_with fail
              go_roundw
              case rel => exact ⟨i + 1, by omega, by rw [HV.out, HN0.out], HO.out, hb2.trans (hbv.mono hb2.size)⟩
              case measure => simp; omega
        · obtain rfl : i = c.length := by omega
          have hzb0 : ((c.length : Int) == 0) = false := beq_eq_false_iff_ne.2 (by omega)
          have hzn0 : ¬ (c.length : Int) = 0 := by omega
          have HAL : Hid (RdI .i64 wr (.slice p2 c.length c2) c) := by
            have h : RdI .i64 wr (.slice p2 c.length c2) (c.take c.length) := by
              rw [List.take_length]
              rw [List.take_length] at hown
              exact RdC.of_owns hown
            rwa [List.take_length] at h
          rw [Nat.mod_self, HQ.out]
          have hn2 : ((q : Int) != (q : Int)) = false := bne_self_eq_false _
          have b15 := b13.below hbr b13.lt
          clear hown hbr HNX HNE h
          obtain ⟨ps, cs, hps, -, -, hsc⟩ := HAL.out.open
          injection hps with hp1 _ hp3
          subst hp1 hp3
          obtain ⟨bs, os, rfl, hbs, hcs⟩ := hsc (List.ne_nil_of_length_pos hpos)
          obtain ⟨W5, hW5⟩ : ∃ W5, W5 = wr := ⟨_, rfl⟩
          subst hW5
          have HCS := Lib.hid hcs
          clear hsc hcs
          go_wp2_with fail
          clear hzb0 hzn0 hn2
          go_loopw [3, 10] (fun t3 t10 wr => ∃ i : Nat, t10 = .int .i64 i ∧ i ≤ c.length ∧ wr.ownsRow W5.heap.size 3 1 t3 (cornL P c i).length ((cornL P c i).map (Value.int .i64)) ∧ Below W5.heap.size W5 wr) (fun _ t10 _ => c.length - (RowKit.intOf t10).toNat)
          case atStart => exact ⟨0, rfl, Nat.zero_le _, World.ownsRow_nil _ _ _ _, Below.refl _ _⟩
          case round =>
            obtain ⟨i, rfl, hi', hown, hbr⟩ := hrel
            have hBr := hB3.trans (hbr.mono hB3.size)
            rcases Nat.lt_or_ge i c.length with h | h
            · obtain ⟨jp, hjp⟩ : ∃ j : Nat, j = (i + c.length - 1) % c.length := ⟨_, rfl⟩
              obtain ⟨jn, hjn⟩ : ∃ j : Nat, j = (i + 1) % c.length := ⟨_, rfl⟩
              have hjpl : jp < c.length := by rw [hjp]; exact Nat.mod_lt _ hpos
              have hjnl : jn < c.length := by rw [hjn]; exact Nat.mod_lt _ hpos
              obtain ⟨q0, e0, l0, g0⟩ := cyc_at HR.out hjpl
              obtain ⟨q1, e1, l1, g1⟩ := cyc_at HR.out h
              obtain ⟨q2, e2, l2, g2⟩ := cyc_at HR.out hjnl
              have hZ0 := HTU.out i h
              rw [← hjp, ← hjn, e0, e1, e2, ptI_nat P q0 l0, ptI_nat P q1 l1, ptI_nat P q2 l2] at hZ0
              have HST : Hid (cornL P c (i + 1) = cornL P c i ++ if 0 < turnZ P[q0] P[q1] P[q2] then [(q1 : Int)] else []) := by
                unfold Hid
                conv => lhs; unfold cornL
                unfold cornB
                rw [← hjp, ← hjn, e0, e1, e2, ptI_nat P q0 l0, ptI_nat P q1 l1, ptI_nat P q2 l2]
                simp only [decide_eq_true_eq]
              obtain ⟨bp, op, rfl, hbp, hcp⟩ := HPC.out (by intro e; have h2 := strP_length P; rw [e] at h2; simp at h2; omega)
              have cell_c : ∀ (j q : Nat), c[j]? = some (q : Int) → W5.cell? ⟨bs, os + j, none⟩ = some (.int .i64 (q : Int)) := fun j q hj => by
                obtain ⟨h1, h2⟩ := List.getElem?_eq_some_iff.1 hj
                rw [← h2]; exact HCS.out j h1
              have s0 := (hbr.cell (p := ⟨bs, os + jp, none⟩) hbs).trans (cell_c jp q0 g0)
              have s1 := (hbr.cell (p := ⟨bs, os + i, none⟩) hbs).trans (cell_c i q1 g1)
              have s2 := (hbr.cell (p := ⟨bs, os + jn, none⟩) hbs).trans (cell_c jn q2 g2)
              obtain ⟨a0, a1⟩ := hcp q0 (by rw [strP_length]; exact l0)
              obtain ⟨a2, a3⟩ := hcp q1 (by rw [strP_length]; exact l1)
              obtain ⟨a4, a5⟩ := hcp q2 (by rw [strP_length]; exact l2)
              rw [strP_get P q0 l0] at a0 a1
              rw [strP_get P q1 l1] at a2 a3
              rw [strP_get P q2 l2] at a4 a5
              dsimp only at a0 a1 a2 a3 a4 a5
              have k0 := (hBr.cell (p := ⟨bp, op + q0 * 2, none⟩) hbp).trans a0
              have k1 := (hBr.cell (p := ⟨bp, op + q0 * 2 + 1, none⟩) hbp).trans a1
              have k2 := (hBr.cell (p := ⟨bp, op + q1 * 2, none⟩) hbp).trans a2
              have k3 := (hBr.cell (p := ⟨bp, op + q1 * 2 + 1, none⟩) hbp).trans a3
              have k4 := (hBr.cell (p := ⟨bp, op + q2 * 2, none⟩) hbp).trans a4
              have k5 := (hBr.cell (p := ⟨bp, op + q2 * 2 + 1, none⟩) hbp).trans a5
              have z0 := HSZ.out (q0 : Int)
              have z1 := HSZ.out (q1 : Int)
              have z2 := HSZ.out (q2 : Int)
              rw [ptI_nat P q0 l0] at z0
              rw [ptI_nat P q1 l1] at z1
              rw [ptI_nat P q2 l2] at z2
              have f0 : (q0 : Int) < (P.length : Int) := by omega
              have f1 : (q1 : Int) < (P.length : Int) := by omega
              have f2 : (q2 : Int) < (P.length : Int) := by omega
              generalize P[q0] = p0 at *
              generalize P[q1] = p1 at *
              generalize P[q2] = p2 at *
              have HTZ : Hid (∀ w, Good w → Calls Tryz.prog 60 #[VP p0, VP p1, VP p2] w (Ret (fun r _ => r = .int .i64 (turnZ p0 p1 p2)) w)) := fun w hg => lturn_any p0 p1 p2 2 (by omega) (by omega) z0 z1 z2 w hg
              unfold VP at HTZ
              have b1r := b15.below hbr b15.lt
              have m0 := b1r.cell 0 rfl
              have hl1 := b1r.lt
              have hbsr : bs < wr.heap.size := Nat.lt_of_lt_of_le hbs hbr.size
              have hbpr : bp < wr.heap.size := Nat.lt_of_lt_of_le hbp hBr.size
              have hiz : (i : Int) < (c.length : Int) := by omega
              have hnz3 : ¬ c = [] := fun e => by rw [e] at hpos; exact absurd hpos (by decide)
              have hnz2 : ¬ c.length = 0 := by omega
              have hw1 : IntKind.i64.wrap ((i : Int) + (c.length : Int)) = (i : Int) + (c.length : Int) := IntWalk.i64_in _ (by omega)
              have hw2 : IntKind.i64.wrap ((i : Int) + (c.length : Int) - 1) = (i : Int) + (c.length : Int) - 1 := IntWalk.i64_in _ (by omega)
              have hw3 : IntKind.i64.wrap ((i : Int) + 1) = (i : Int) + 1 := IntWalk.i64_in _ (by omega)
              have hr1 : ((i : Int) + (c.length : Int) - 1).tmod (c.length : Int) = (jp : Int) := by
                rw [Int.tmod_eq_emod_of_nonneg (by omega), hjp, Int.natCast_emod, show ((i + c.length - 1 : Nat) : Int) = (i : Int) + (c.length : Int) - 1 by omega]
              have hr2 : ((i : Int) + 1).tmod (c.length : Int) = (jn : Int) := by
                rw [Int.tmod_eq_emod_of_nonneg (by omega), hjn, Int.natCast_emod]
                rfl
              have hw4 : IntKind.i64.wrap (jp : Int) = (jp : Int) := IntWalk.i64_in _ (by omega)
              have hw5 : IntKind.i64.wrap (jn : Int) = (jn : Int) := IntWalk.i64_in _ (by omega)
              have hjpz : (jp : Int) < (c.length : Int) := by omega
              have hjnz : (jn : Int) < (c.length : Int) := by omega
              have HS : Hid (∀ w', Below wr.heap.size wr w' → w'.cell? ⟨w.heap.size, 0, none⟩ = some (.slice (some ⟨bp, op, none⟩) P.length cp) ∧ w'.cell? ⟨bs, os + jp, none⟩ = some (.int .i64 (q0 : Int)) ∧ w'.cell? ⟨bs, os + i, none⟩ = some (.int .i64 (q1 : Int)) ∧ w'.cell? ⟨bs, os + jn, none⟩ = some (.int .i64 (q2 : Int)) ∧ w'.cell? ⟨bp, op + q0 * 2, none⟩ = some (.string (RS p0.1)) ∧ w'.cell? ⟨bp, op + q0 * 2 + 1, none⟩ = some (.string (RS p0.2)) ∧ w'.cell? ⟨bp, op + q1 * 2, none⟩ = some (.string (RS p1.1)) ∧ w'.cell? ⟨bp, op + q1 * 2 + 1, none⟩ = some (.string (RS p1.2)) ∧ w'.cell? ⟨bp, op + q2 * 2, none⟩ = some (.string (RS p2.1)) ∧ w'.cell? ⟨bp, op + q2 * 2 + 1, none⟩ = some (.string (RS p2.2))) := fun w' hb => ⟨(hb.cell (p := ⟨w.heap.size, 0, none⟩) hl1).trans m0, (hb.cell (p := ⟨bs, os + jp, none⟩) hbsr).trans s0, (hb.cell (p := ⟨bs, os + i, none⟩) hbsr).trans s1, (hb.cell (p := ⟨bs, os + jn, none⟩) hbsr).trans s2, (hb.cell (p := ⟨bp, op + q0 * 2, none⟩) hbpr).trans k0, (hb.cell (p := ⟨bp, op + q0 * 2 + 1, none⟩) hbpr).trans k1, (hb.cell (p := ⟨bp, op + q1 * 2, none⟩) hbpr).trans k2, (hb.cell (p := ⟨bp, op + q1 * 2 + 1, none⟩) hbpr).trans k3, (hb.cell (p := ⟨bp, op + q2 * 2, none⟩) hbpr).trans k4, (hb.cell (p := ⟨bp, op + q2 * 2 + 1, none⟩) hbpr).trans k5⟩
              have hq00 : Below wr.heap.size wr wr.drew := below_drewN wr 1
              clear hcp cell_c a0 a1 a2 a3 a4 a5 e0 e1 e2 g0 g1 g2 hjp hjn z0 z1 z2 b1r
              go_upto_region 23 with fail
              go_cut [11, 12, 13] (fun s11 s12 s13 wx => ∃ b5 b6 b7 : Nat, s11 = .pointer (some ⟨b5, 0, none⟩) ∧ s12 = .pointer (some ⟨b6, 0, none⟩) ∧ s13 = .pointer (some ⟨b7, 0, none⟩) ∧ BoxP wx b5 p0 ∧ BoxP wx b6 p1 ∧ BoxP wx b7 p2 ∧ Below wr.heap.size wr wx)
              case first =>
                go_region_held3 (fun w' => w'.cell? ⟨w.heap.size, 0, none⟩ = some (.slice (some ⟨bp, op, none⟩) P.length cp) ∧ w'.cell? ⟨bs, os + jp, none⟩ = some (.int .i64 (q0 : Int)) ∧ w'.cell? ⟨bs, os + i, none⟩ = some (.int .i64 (q1 : Int)) ∧ w'.cell? ⟨bs, os + jn, none⟩ = some (.int .i64 (q2 : Int)) ∧ w'.cell? ⟨bp, op + q0 * 2, none⟩ = some (.string (RS p0.1)) ∧ w'.cell? ⟨bp, op + q0 * 2 + 1, none⟩ = some (.string (RS p0.2)) ∧ w'.cell? ⟨bp, op + q1 * 2, none⟩ = some (.string (RS p1.1)) ∧ w'.cell? ⟨bp, op + q1 * 2 + 1, none⟩ = some (.string (RS p1.2)) ∧ w'.cell? ⟨bp, op + q2 * 2, none⟩ = some (.string (RS p2.1)) ∧ w'.cell? ⟨bp, op + q2 * 2 + 1, none⟩ = some (.string (RS p2.2)))
                  ((refine HS.out _ ?_; repeat (first | with_reducible exact hq00 | with_reducible exact Below.refl _ _ | with_reducible refine Below.drew ?_ | ((with_reducible refine Below.setCell ?_ ?_ _); rotate_left; (first | omega | (simp <;> omega))) | ((with_reducible refine Below.alloc ?_ ?_ _); rotate_left; (first | exact Nat.le_refl _ | omega | (simp <;> omega))))))
                  (first | fail)
                all_goals
                  go_wp2_with fail
                  go_meet
                  refine ⟨_, _, _, rfl, rfl, rfl, ?_, ?_, ?_, ?_⟩
                  · first | exact boxP_new _ p0 _ _ (by simp) | exact (boxP_new _ p0 _ _ (by simp)).alloc _ | exact ((boxP_new _ p0 _ _ (by simp)).alloc _).alloc _
                  · first | exact boxP_new _ p1 _ _ (by simp) | exact (boxP_new _ p1 _ _ (by simp)).alloc _ | exact ((boxP_new _ p1 _ _ (by simp)).alloc _).alloc _
                  · first | exact boxP_new _ p2 _ _ (by simp) | exact (boxP_new _ p2 _ _ (by simp)).alloc _ | exact ((boxP_new _ p2 _ _ (by simp)).alloc _).alloc _
                  · repeat (first | with_reducible exact hq00 | with_reducible exact Below.refl _ _ | with_reducible refine Below.drew ?_ | ((with_reducible refine Below.setCell ?_ ?_ _); rotate_left; (first | omega | (simp <;> omega))) | ((with_reducible refine Below.alloc ?_ ?_ _); rotate_left; (first | exact Nat.le_refl _ | omega | (simp <;> omega))))
              case rest =>
              obtain ⟨b5, b6, b7, rfl, rfl, rfl, ⟨a0, a1⟩, ⟨a2, a3⟩, ⟨a4, a5⟩, hbW⟩ := hcut
              have hbq := hbr.trans (hbW.mono hbr.size)
              have hBq := hBr.trans (hbW.mono hBr.size)
              have hown6 := World.ownsRow.belowAll hown hbW
              have s1 := (hbW.cell (p := ⟨bs, os + i, none⟩) hbsr).trans s1
              clear hown m0 s0 s2 k0 k1 k2 k3 k4 k5 HS hq00 hw1 hw2 hw4 hw5 hr1 hr2 hjpz hjnz hjpl hjnl l0 l2 f0 f2
              go_wp2_with fail
              refine (HTZ.out wc (hg.below hBq)).mono ?_
              rintro e w7 ⟨_, rfl, rfl, hb7⟩
              have hbq7 := hbq.trans (hb7.mono hbq.size)
              have hown7 := World.ownsRow.belowAll hown6 hb7
              have s1 := (hb7.cell (p := ⟨bs, os + i, none⟩) (Nat.lt_of_lt_of_le hbsr hbW.size)).trans s1
              have hlen := cornL_len P c i
              obtain ⟨p7, c7, rfl⟩ := ownsRow_shape hown7
              clear hown6 hb7 hbW a0 a1 a2 a3 a4 a5 HTZ
              by_cases hzt : 0 < turnZ p0 p1 p2
              · have HN : Hid (cornL P c (i + 1) = cornL P c i ++ [(q1 : Int)]) := by unfold Hid; rw [HST.out, if_pos hzt]
                have hzn : ¬ turnZ p0 p1 p2 = 0 := by omega
                have hzb : (turnZ p0 p1 p2 != 0) = true := by simpa using hzn
                generalize turnZ p0 p1 p2 = zz at *
                clear HST
                go_wp2_with (at_builtin; refine wpList_append_own _ rfl _ _ 42 rfl W5.heap.size 3 i0 (.int .i64 0) 1 8 Tryz.underlying42 hi hz0 hz1 hz2 rfl (by decide) _ _ _ rfl (hown7.alloc _) ⟨w7.heap.size, 0, none⟩ 1 1 [.int .i64 (q1 : Int)] rfl rfl (cell_one_i64 _ _ _) (one_cell_i64 _) (by unfold maxLen; omega) (by omega) (by have := hbq7.size; simp; omega) ?_; intro v2 w2 hown2 hgrow2 _; have hb2 : Below W5.heap.size W5 w2 := (hbq7.alloc hbq7.size _).grown hgrow2 (by have := hbq7.size; simp; omega) (fun j hj => (hown7.lt j hj).1); clear hgrow2)
                go_roundw
                case rel => exact ⟨i + 1, by go_num, by omega, by rw [HN.out, List.length_append, List.map_append]; exact hown2, hb2⟩
                case measure => simp [RowKit.intOf]; omega
              · have HN : Hid (cornL P c (i + 1) = cornL P c i) := by unfold Hid; rw [HST.out, if_neg hzt, List.append_nil]
                have hzn : turnZ p0 p1 p2 = 0 := by omega
                have hzb : (turnZ p0 p1 p2 != 0) = false := by simpa using hzn
                clear HST
                rw [hzn]
                clear hzn hzb hzt hZ0
                go_wp2_with fail
                go_roundw
                case rel => exact ⟨i + 1, by go_num, by omega, by rw [HN.out]; exact hown7, hbq7⟩
                case measure => simp [RowKit.intOf]; omega
            · have hige : ¬ (i : Int) < (c.length : Int) := by omega
              have HI : Hid (i = c.length) := by unfold Hid; omega
              have HFIN : Hid (RdI .i64 wr u3 (cornL P c c.length)) := by
                have h : RdI .i64 wr u3 (cornL P c i) := RdC.of_owns hown
                rwa [HI.out] at h
              have HALL : Hid (RdI .i64 wr (.slice (some ⟨bs, os, none⟩) c.length c2) c) := RdC.below HAL.out hbr
              clear hown HI
              go_wp2_with fail
              go_ret2
              exact ⟨_, rfl, ⟨_, _, rfl, HALL.out, HFIN.out⟩, hBr⟩

end Go.Proofs.YtdhcliekejiegaaGreatDoor

namespace Go.Proofs.YtdhcliekejiegaaGreatDoor
open Go.RowKit Go.Lib

theorem RdE.cellsE {w : World} {v : Value} {l : List Edge} (h : RdE w v l) : ∃ p c, v = .slice p l.length c ∧ ∀ i s, l[i]? = some s → ∃ b off, p = some ⟨b, off, none⟩ ∧ b < w.heap.size ∧ w.cell? ⟨b, off + i * 2, none⟩ = some (.int .i64 s.1) ∧ w.cell? ⟨b, off + i * 2 + 1, none⟩ = some (.int .i64 s.2) := by
  obtain ⟨p, c, rfl, _, _, _, h4⟩ := h
  refine ⟨p, c, rfl, fun i s hs => ?_⟩
  obtain ⟨g1, g2⟩ := cellsE_get l i s hs
  obtain ⟨b, off, hp, hc⟩ := h4 (fun e => by rw [e] at g1; cases g1)
  have k1 := hc _ _ g1
  have k2 := hc _ _ g2
  rw [← Nat.add_assoc] at k2
  exact ⟨b, off, hp, World.block_lt_of_cell? w _ k1, k1, k2⟩
theorem meshIE {P : List PtQ} {T : List Tri} {m : Nat} (hm : MeshOK P T m) : ∀ t ∈ T, InI t.1 ∧ InI t.2.1 ∧ InI t.2.2 := fun t ht => by
  have hl := hm.plen
  have key : ∀ x ∈ idxOf t, InI x := fun x hx => by
    have := hm.idx t ht x hx
    unfold InI
    omega
  exact ⟨key _ (by simp [idxOf]), key _ (by simp [idxOf]), key _ (by simp [idxOf])⟩
theorem meshSmE {P : List PtQ} {T : List Tri} {m : Nat} (hm : MeshOK P T m) : ∀ s ∈ keysOf T, SmE s := fun s hs => by
  have hl := hm.plen
  obtain ⟨t, ht, h1, h2⟩ := keysOf_mem hs
  have a := hm.idx t ht _ h1
  have b := hm.idx t ht _ h2
  exact ⟨⟨by omega, by omega⟩, by omega, by omega⟩
theorem eqE2 (a b : Int) (w : World) : Sem.run Tryz.prog (Op.equalIn 10000 47 (.agg #[.int .i64 a, .int .i64 b]) (.agg #[.int .i64 a, .int .i64 b])) w = .ok true w := by
  have u3 := Tryz.underlying3
  have a3 := Tryz.isAgg3
  have z3 := Tryz.sizeOf3
  rw [show (10000 : Nat) = 9999 + 1 from rfl, Op.equalIn]
  simp only [Sem.run_bind, run_underlying Tryz.underlying47, Result.andThen_ok]
  simp only [Std.Legacy.Range.forIn_eq_forIn_range', Std.Legacy.Range.size, Nat.sub_zero, Nat.add_sub_cancel, Nat.div_one, List.range'_succ, List.range'_zero, List.forIn_cons, List.forIn_nil]
  go_simp
theorem eqE3 (a b c : Int) (w : World) : Sem.run Tryz.prog (Op.equalIn 10000 39 (.agg #[.int .i64 a, .int .i64 b, .int .i64 c]) (.agg #[.int .i64 a, .int .i64 b, .int .i64 c])) w = .ok true w := by
  have u3 := Tryz.underlying3
  have a3 := Tryz.isAgg3
  have z3 := Tryz.sizeOf3
  rw [show (10000 : Nat) = 9999 + 1 from rfl, Op.equalIn]
  simp only [Sem.run_bind, run_underlying Tryz.underlying39, Result.andThen_ok]
  simp only [Std.Legacy.Range.forIn_eq_forIn_range', Std.Legacy.Range.size, Nat.sub_zero, Nat.add_sub_cancel, Nat.div_one, List.range'_succ, List.range'_zero, List.forIn_cons, List.forIn_nil]
  go_simp

set_option maxRecDepth 100000 in
theorem neighbours_range (w : World) (vp vt : Value) (P : List PtQ) (T : List Tri) (k : Nat) (hp : RdP w vp (strP P)) (ht : RdT w vt T) (hm : MeshOK P T k) (tz : Int) (htz : tz < 0 ∨ (T.length : Int) ≤ tz) (hg : Good w) :
    Calls Tryz.prog 12 #[.agg #[vp, vt], .int .i64 tz] w (Ret (fun r _ => r = .tuple #[.agg #[.int .i64 0, .int .i64 0, .int .i64 0], .int .i64 3]) w) := by
  have HCT : Hid (∀ w', Below w.heap.size w w' → Good w' → _) := fun w' hb hg' => checkTriangle_range w' vp vt P T k (RdC.below hp hb) (RdC.below ht hb) hm tz htz hg'
  obtain ⟨pp, cp, rfl, -, -, -⟩ := hp.open
  obtain ⟨pt, ct, rfl, -, -, -⟩ := ht.open
  clear hp ht hm htz
  go_enter Tryz.func12, Tryz.ntmps12
  go_wp2_with fail
  obtain ⟨W2, hW2⟩ : ∃ W2, W2 = (w.alloc (.cells #[.slice pp (strP P).length cp, .slice pt T.length ct] 30)).alloc (.cells #[.int .i64 0, .int .i64 0, .int .i64 0] 39) := ⟨_, rfl⟩
  have b2 : BoxN W2 (w.heap.size + 1) 39 [.int .i64 0, .int .i64 0, .int .i64 0] := by rw [hW2]; exact BoxN.new _ _ _ _ (by simp)
  have hB : Below w.heap.size w W2 := by rw [hW2]; exact ((Below.refl _ _).alloc (Nat.le_refl _) _).alloc (by simp) _
  rw [← hW2]
  clear hW2
  refine (HCT.out W2 hB (hg.below hB)).mono ?_
  rintro e w1 ⟨_, rfl, rfl, hb1⟩
  have hB1 := hB.trans (hb1.mono hB.size)
  have b21 := b2.below hb1 b2.lt
  have f0 := b21.frozen 0
  have f1 := b21.frozen 1
  have f2 := b21.frozen 2
  have y0 := b21.cell 0 rfl
  have y1 := b21.cell 1 rfl
  have y2 := b21.cell 2 rfl
  clear hb1 hB b2
  go_wp2_with fail
  have BF := ((b21.set 0 (.int .i64 0)).set 1 (.int .i64 0)).set 2 (.int .i64 0)
  have hle : w.heap.size ≤ w.heap.size + 1 := by omega
  have hBF := ((hB1.setCell (p := ⟨w.heap.size + 1, 0, none⟩) hle (.int .i64 0)).setCell (p := ⟨w.heap.size + 1, 1, none⟩) hle (.int .i64 0)).setCell (p := ⟨w.heap.size + 1, 2, none⟩) hle (.int .i64 0)
  have g0 := BF.cell 0 rfl
  have g1 := BF.cell 1 rfl
  have g2 := BF.cell 2 rfl
  exact bodyPost_ret (v := .tuple #[.agg #[.int .i64 0, .int .i64 0, .int .i64 0], .int .i64 3]) (by simp [results, Tryz.results12, go_sem, g0, g1, g2]) rfl ⟨_, rfl, rfl, hBF⟩

set_option maxHeartbeats 8000000 in
set_option maxRecDepth 100000 in
theorem meshEdges_walk (w : World) (kz s0 s1 : Int) (half : Bool) (tz : Int) (P : List PtQ) (T : List Tri) (c : List Int) (E : List Edge) (n0 n1 n2 ge : Int)
    (hP8 : P.length ≤ 8) (hP0 : 0 < P.length) (hT6 : T.length ≤ 6) (hc6 : c.length ≤ 6) (K : Nat → Nat → Nat) (K0 : Nat → Nat) (hK00 : K0 0 = 0)
    (HNX : Hid (∀ u v : Nat, u < P.length → v < P.length → u < v → ¬ (sideI T (u : Int) (v : Int) < 0 ∧ sideI T (v : Int) (u : Int) < 0) → E[K u v]? = some ((u : Int), (v : Int))))
    (HNS : Hid (∀ u v : Nat, u < v → ¬ (sideI T (u : Int) (v : Int) < 0 ∧ sideI T (v : Int) (u : Int) < 0) → K u (v + 1) = K u v + 1))
    (HNK : Hid (∀ u v : Nat, (sideI T (u : Int) (v : Int) < 0 ∧ sideI T (v : Int) (u : Int) < 0) → K u (v + 1) = K u v))
    (HN0 : Hid (∀ u : Nat, K u (u + 1) = K0 u)) (HN1 : Hid (∀ u : Nat, K u P.length = K0 (u + 1))) (HNE : Hid (K0 P.length = E.length)) (hE64 : E.length ≤ 64)
    (HMK : Hid (∀ w, Good w → Calls Tryz.prog 9 #[.agg #[.int .u8 kz, .int .i8 s0, .int .i8 s1, .bool half]] w (Ret (fun r w' => ∃ vp vt, r = .agg #[vp, vt] ∧ RdP w' vp (strP P) ∧ RdT w' vt T) w)))
    (HAR : Hid (∀ (w : World) (vp vt : Value), RdP w vp (strP P) → RdT w vt T → Good w → Calls Tryz.prog 10 #[.agg #[vp, vt]] w (Ret (fun r _ => r = .tuple #[.string (RS (hullN P P.length)), .int .i64 0]) w)))
    (HED : Hid (∀ (w : World) (vp vt : Value), RdP w vp (strP P) → RdT w vt T → Good w → Calls Tryz.prog 11 #[.agg #[vp, vt]] w (Ret (fun r w' => ∃ v, r = .tuple #[v, .int .i64 0] ∧ RdE w' v E ∧ FreshV w.heap.size v) w)))
    (HNB : Hid (∀ (w : World) (vp vt : Value), RdP w vp (strP P) → RdT w vt T → Good w → Calls Tryz.prog 12 #[.agg #[vp, vt], .int .i64 tz] w (Ret (fun r _ => r = .tuple #[.agg #[.int .i64 n0, .int .i64 n1, .int .i64 n2], .int .i64 ge]) w)))
    (HBD : Hid (∀ (w : World) (vp vt : Value), RdP w vp (strP P) → RdT w vt T → Good w → Calls Tryz.prog 13 #[.agg #[vp, vt]] w (Ret (fun r w' => ∃ s, r = .tuple #[s, .int .i64 0] ∧ RdI .i64 w' s c ∧ FreshV w.heap.size s) w)))
    (HCO : Hid (∀ (w : World) (vp vt : Value), RdP w vp (strP P) → RdT w vt T → Good w → Calls Tryz.prog 14 #[.agg #[vp, vt]] w (Ret (fun r w' => ∃ v, r = .tuple #[v, .int .i64 0] ∧ RdI .i64 w' v (cornL P c c.length)) w)))
    (HHU : Hid (∀ (w : World) (vp : Value), RdP w vp (strP P) → Good w → Calls Tryz.prog 15 #[vp] w (Ret (fun r _ => r = .string (RS (hullN P P.length))) w)))
    (HBO : Hid (∀ (w : World) (vp vt : Value), RdP w vp (strP P) → RdT w vt T → Good w → Calls Tryz.prog 17 #[.agg #[vp, vt]] w (Ret (fun r w' => ∃ va vb, r = .tuple #[va, vb] ∧ RdI .i64 w' va c ∧ RdI .i64 w' vb (cornL P c c.length)) w)))
    (HCS : Hid ((tz < 0 ∨ (T.length : Int) ≤ tz) ∧ n0 = 0 ∧ n1 = 0 ∧ n2 = 0 ∧ ge = 3 ∨ ∃ (t : Nat) (tr : Tri), tz = (t : Int) ∧ T[t]? = some tr ∧ ge = 0 ∧ n0 = sideI T tr.2.1 tr.1 ∧ n1 = sideI T tr.2.2 tr.2.1 ∧ n2 = sideI T tr.1 tr.2.2)) (hg : Good w) :
    Calls Tryz.prog 3 #[.agg #[.int .u8 kz, .int .i8 s0, .int .i8 s1, .bool half], .int .i64 tz] w (Ret (fun r _ => r = .bool true) w) := by
  have HSD : Hid (∀ (u v : Int) (w : World) (vp vt : Value), RdP w vp (strP P) → RdT w vt T → Calls Tryz.prog 16 #[.agg #[vp, vt], .int .i64 u, .int .i64 v] w (Ret (fun r _ => r = .int .i64 (sideI T u v)) w)) := fun u v w vp vt hp ht => lsides_any w vp vt (strP P) T hp ht (by omega) u v
  have HCL : Hid ((cornL P c c.length).length ≤ 6) := Nat.le_trans (cornL_len P c c.length) hc6
  have HQ2 := Lib.hid eqE2
  have HQ3 := Lib.hid eqE3
  generalize cornL P c c.length = CL at *
  obtain ⟨sa, hsa⟩ : ∃ s, s = RS (hullN P P.length) := ⟨_, rfl⟩
  rw [← hsa] at HAR HHU
  have hse1 : (sa.toList != sa.toList) = false := bne_self_eq_false _
  have hse2 : (sa.toList == sa.toList) = true := beq_self_eq_true _
  clear hsa
  go_enter Tryz.func3, Tryz.ntmps3
  go_wp2_with fail
  obtain ⟨W, hW⟩ : ∃ W, W = w.alloc (.cells #[.int .u8 kz, .int .i8 s0, .int .i8 s1, .bool half] 25) := ⟨_, rfl⟩
  have hB : Below w.heap.size w W := by rw [hW]; exact (Below.refl _ _).alloc (Nat.le_refl _) _
  have b3 : BoxN W w.heap.size 25 [.int .u8 kz, .int .i8 s0, .int .i8 s1, .bool half] := by rw [hW]; exact BoxN.new _ _ _ _ rfl
  rw [← hW]
  clear hW
  refine (known12_any W (hg.below hB)).mono ?_
  rintro e o1 ⟨_, rfl, rfl, hb1⟩
  have hB1 := hB.trans (hb1.mono hB.size)
  have b31 := b3.below hb1 b3.lt
  clear hb1 hB b3
  have k0 := b31.cell 0 rfl
  have k1 := b31.cell 1 rfl
  have k2 := b31.cell 2 rfl
  have k3 := b31.cell 3 rfl
  go_wp2_with fail
  refine (HMK.out o1 (hg.below hB1)).mono ?_
  rintro e o2 ⟨_, rfl, ⟨vp, vt, rfl, hp, ht⟩, hb2⟩
  have hB2 := hB1.trans (hb2.mono hB1.size)
  obtain ⟨pp, cp, rfl, -, -, -⟩ := hp.open
  obtain ⟨pt, ct, rfl, -, -, htc⟩ := ht.open
  rw [strP_length] at *
  have HPP := Lib.hid hp
  have HTT := Lib.hid ht
  have HTC := Lib.hid htc
  clear hb2 hB1 b31 hp ht k0 k1 k2 k3 HMK htc
  obtain ⟨o3, ho3⟩ : ∃ W, W = o2.alloc (.cells #[.slice pp P.length cp, .slice pt T.length ct] 30) := ⟨_, rfl⟩
  have h23 : Below o2.heap.size o2 o3 := by rw [ho3]; exact (Below.refl _ _).alloc (Nat.le_refl _) _
  have b53 : BoxN o3 o2.heap.size 30 [.slice pp P.length cp, .slice pt T.length ct] := by rw [ho3]; exact BoxN.new _ _ _ _ rfl
  have hB3 := hB2.trans (h23.mono hB2.size)
  go_upto_region 4 with fail
  rw [← ho3]
  clear ho3
  have m0 := b53.cell 0 rfl
  have m1 := b53.cell 1 rfl
  go_wp2_with fail
  refine (HAR.out o3 _ _ (RdC.below HPP.out h23) (RdC.below HTT.out h23) (hg.below hB3)).mono ?_
  rintro e o4 ⟨_, rfl, rfl, hb⟩
  have hB4 := hB3.trans (hb.mono hB3.size)
  have h24 := h23.trans (hb.mono h23.size)
  have b54 := b53.below hb b53.lt
  clear m0 m1 hb
  have m0 := b54.cell 0 rfl
  have m1 := b54.cell 1 rfl
  go_wp2_with fail
  refine (HED.out o4 _ _ (RdC.below HPP.out h24) (RdC.below HTT.out h24) (hg.below hB4)).mono ?_
  rintro e o5 ⟨_, rfl, ⟨ve, rfl, hve, -⟩, hb⟩
  have hB5 := hB4.trans (hb.mono hB4.size)
  have h25 := h24.trans (hb.mono h24.size)
  have b55 := b54.below hb b54.lt
  have HVE5 := Lib.hid hve
  clear m0 m1 hb
  have m0 := b55.cell 0 rfl
  have m1 := b55.cell 1 rfl
  go_wp2_with fail
  refine (HNB.out o5 _ _ (RdC.below HPP.out h25) (RdC.below HTT.out h25) (hg.below hB5)).mono ?_
  rintro e o6 ⟨_, rfl, rfl, hb⟩
  have hB6 := hB5.trans (hb.mono hB5.size)
  have h26 := h25.trans (hb.mono h25.size)
  have b56 := b55.below hb b55.lt
  have HVE6 := Lib.hid (RdC.below HVE5.out hb)
  clear m0 m1 hb
  go_upto_region 7 with fail
  obtain ⟨o7, ho7⟩ : ∃ W, W = o6.alloc (.cells #[.int .i64 n0, .int .i64 n1, .int .i64 n2] 39) := ⟨_, rfl⟩
  have hb : Below o6.heap.size o6 o7 := by rw [ho7]; exact (Below.refl _ _).alloc (Nat.le_refl _) _
  have bn7 : BoxN o7 o6.heap.size 39 [.int .i64 n0, .int .i64 n1, .int .i64 n2] := by rw [ho7]; exact BoxN.new _ _ _ _ rfl
  have hB7 := hB6.trans (hb.mono hB6.size)
  have h27 := h26.trans (hb.mono h26.size)
  have b57 := b56.below hb b56.lt
  have HVE7 := Lib.hid (RdC.below HVE6.out hb)
  rw [← ho7]
  clear ho7 hb hve HVE5 HVE6 b53 b54 b55 b56 h23 h24 h25 h26 hB3 hB4 hB5 hB6 hB2
  have m0 := b57.cell 0 rfl
  have m1 := b57.cell 1 rfl
  go_wp2_with fail
  refine (HBD.out o7 _ _ (RdC.below HPP.out h27) (RdC.below HTT.out h27) (hg.below hB7)).mono ?_
  rintro e o8 ⟨_, rfl, ⟨vb, rfl, hvb, -⟩, hb⟩
  have hB8 := hB7.trans (hb.mono hB7.size)
  have h28 := h27.trans (hb.mono h27.size)
  have b58 := b57.below hb b57.lt
  have bn8 := bn7.below hb bn7.lt
  have HVE8 := Lib.hid (RdC.below HVE7.out hb)
  clear m0 m1 hb
  have m0 := b58.cell 0 rfl
  have m1 := b58.cell 1 rfl
  go_wp2_with fail
  refine (HCO.out o8 _ _ (RdC.below HPP.out h28) (RdC.below HTT.out h28) (hg.below hB8)).mono ?_
  rintro e o9 ⟨_, rfl, ⟨vc, rfl, hvc⟩, hb⟩
  have hB9 := hB8.trans (hb.mono hB8.size)
  have h29 := h28.trans (hb.mono h28.size)
  have b59 := b58.below hb b58.lt
  have bn9 := bn8.below hb bn8.lt
  have HVE9 := Lib.hid (RdC.below HVE8.out hb)
  have HVB9 := Lib.hid (RdC.below hvb hb)
  clear m0 m1 hb
  have m0 := b59.cell 0 rfl
  have m1 := b59.cell 1 rfl
  go_wp2_with fail
  refine (HHU.out o9 _ (RdC.below HPP.out h29) (hg.below hB9)).mono ?_
  rintro e o10 ⟨_, rfl, rfl, hb⟩
  have hB10 := hB9.trans (hb.mono hB9.size)
  have h210 := h29.trans (hb.mono h29.size)
  have b510 := b59.below hb b59.lt
  have bn10 := bn9.below hb bn9.lt
  have HVE10 : Hid (RdE o10 ve E) := RdC.below HVE9.out hb
  have HVB10 : Hid (RdI .i64 o10 vb c) := RdC.below HVB9.out hb
  have HVC10 : Hid (RdI .i64 o10 vc CL) := RdC.below hvc hb
  clear m0 m1 hb b57 b58 b59 bn7 bn8 bn9 h27 h28 h29 hB7 hB8 hB9 HVE7 HVE8 HVE9 hvb HVB9 hvc HAR HED HNB HBD HCO HHU
  obtain ⟨pe, ce, rfl, hce⟩ := HVE10.out.cellsE
  have HCE := Lib.hid hce
  clear hce HVE10
  go_wp2_with fail
  go_loopw [16, 17] (fun t16 t17 wr => ∃ u : Nat, t17 = .int .i64 u ∧ u ≤ P.length ∧ t16 = .int .i64 (K0 u : Nat) ∧ Below o10.heap.size o10 wr) (fun _ t17 _ => P.length - (RowKit.intOf t17).toNat)
  case atStart => exact ⟨0, rfl, Nat.zero_le _, by rw [hK00]; rfl, Below.refl _ _⟩
  case round =>
    obtain ⟨u, rfl, hu, rfl, hbr⟩ := hrel
    have b5r := b510.below hbr b510.lt
    have m0 := b5r.cell 0 rfl
    rcases Nat.lt_or_ge u P.length with h | h
    · have huz : (u : Int) < (P.length : Int) := by omega
      have HU0 := Lib.hid (HN0.out u)
      have HU1 := Lib.hid (HN1.out u)
      obtain ⟨wo, hwo⟩ : ∃ wo : World, wo = wr := ⟨_, rfl⟩
      subst hwo
      clear b5r
      go_wp2_with fail
      go_loopw [16, 18] (fun t16 t18 wr => ∃ v : Nat, t18 = .int .i64 v ∧ v ≤ P.length ∧ u < v ∧ t16 = .int .i64 (K u v : Nat) ∧ Below o10.heap.size o10 wr) (fun _ t18 _ => P.length - (RowKit.intOf t18).toNat)
      case atStart => exact ⟨u + 1, by go_num, by omega, by omega, by rw [HU0.out], hbr⟩
      case round =>
        obtain ⟨v, rfl, hv, huv, rfl, hbv⟩ := hrel
        clear hbr m0
        have b5v := b510.below hbv b510.lt
        have m0 := b5v.cell 0 rfl
        have m1 := b5v.cell 1 rfl
        have h2v := h210.trans (hbv.mono h210.size)
        rcases Nat.lt_or_ge v P.length with h2 | h2
        · have hvz : (v : Int) < (P.length : Int) := by omega
          have HX := Lib.hid (HNX.out u v h h2 huv)
          have HS := Lib.hid (HNS.out u v huv)
          have HK := Lib.hid (HNK.out u v)
          go_upto_region 18 with fail
          go_cut [101] (fun s101 wx => (∃ b : Bool, s101 = .bool b ∧ (b = true ↔ (sideI T (u : Int) (v : Int) < 0 ∧ sideI T (v : Int) (u : Int) < 0))) ∧ Below o10.heap.size o10 wx)
          case first =>
            go_wp2_with fail
            refine (HSD.out u v _ _ _ (RdC.below HPP.out h2v) (RdC.below HTT.out h2v)).mono ?_
            rintro e w1 ⟨_, rfl, rfl, hb1⟩
            have hbv1 := hbv.trans (hb1.mono hbv.size)
            have h2v1 := h2v.trans (hb1.mono h2v.size)
            have b5v1 := b5v.below hb1 b5v.lt
            clear m0 m1 hb1 b5v
            have m0 := b5v1.cell 0 rfl
            have m1 := b5v1.cell 1 rfl
            clear HX HS HK
            by_cases h3 : sideI T (u : Int) (v : Int) < 0
            · have h3d : decide (sideI T (u : Int) (v : Int) < 0) = true := decide_eq_true h3
              go_wp2_with fail
              refine (HSD.out v u _ _ _ (RdC.below HPP.out h2v1) (RdC.below HTT.out h2v1)).mono ?_
              rintro e w2 ⟨_, rfl, rfl, hb2⟩
              have hbv2 := hbv1.trans (hb2.mono hbv1.size)
              clear m0 m1 hb2
              by_cases h4 : sideI T (v : Int) (u : Int) < 0
              · have h4d : decide (sideI T (v : Int) (u : Int) < 0) = true := decide_eq_true h4
                go_wp2_with fail
                go_meet
                exact ⟨⟨true, rfl, fun _ => ⟨h3, h4⟩, fun _ => rfl⟩, hbv2⟩
              · have h4d : decide (sideI T (v : Int) (u : Int) < 0) = false := decide_eq_false h4
                go_wp2_with fail
                go_meet
                exact ⟨⟨false, rfl, fun e => Bool.noConfusion e, fun e => (by omega)⟩, hbv2⟩
            · have h3d : decide (sideI T (u : Int) (v : Int) < 0) = false := decide_eq_false h3
              go_wp2_with fail
              go_meet
              exact ⟨⟨false, rfl, fun e => Bool.noConfusion e, fun e => (by omega)⟩, hbv1⟩
          case rest =>
          obtain ⟨⟨bb, rfl, hbb⟩, hbv2⟩ := hcut
          clear m0 m1 b5v h2v hbv
          cases bb with
          | true =>
            have HK2 := Lib.hid (HK.out (hbb.1 rfl))
            clear hbb HX HS HK
            go_wp2_with fail
            go_roundw
            case rel => exact ⟨v + 1, by go_num, by omega, by omega, by rw [HK2.out], hbv2⟩
            case measure => simp [RowKit.intOf]; omega
          | false =>
            have hnn : ¬ (sideI T (u : Int) (v : Int) < 0 ∧ sideI T (v : Int) (u : Int) < 0) := fun e => Bool.noConfusion (hbb.2 e)
            have HS2 := Lib.hid (HS.out hnn)
            have hX2 := HX.out hnn
            obtain ⟨hlt, -⟩ := List.getElem?_eq_some_iff.1 hX2
            obtain ⟨be, oe, rfl, hbe, c0, c1⟩ := HCE.out _ _ hX2
            have e0 := (hbv2.cell (p := ⟨be, oe + K u v * 2, none⟩) hbe).trans c0
            have e1 := (hbv2.cell (p := ⟨be, oe + K u v * 2 + 1, none⟩) hbe).trans c1
            dsimp only at e0 e1
            have hQ := HQ2.out (u : Int) (v : Int)
            clear hbb HX HS HK hnn hX2 c0 c1
            obtain ⟨kk, hkk⟩ : ∃ k, k = K u v := ⟨_, rfl⟩
            rw [← hkk] at e0 e1 HS2 hlt ⊢
            clear hkk
            have hltz : (kk : Int) < (E.length : Int) := by omega
            have hltd : decide ((E.length : Int) ≤ (kk : Int)) = false := decide_eq_false (by omega)
            go_wp2_with fail
            go_roundw
            case rel => exact ⟨v + 1, by go_num, by omega, by omega, by rw [HS2.out]; go_num, hbv2⟩
            case measure => simp [RowKit.intOf]; omega
        · have hvn : ¬ (v : Int) < (P.length : Int) := by omega
          have HV : Hid (v = P.length) := by unfold Hid; omega
          go_wp2_with fail
          go_roundw
          case rel => exact ⟨u + 1, by go_num, by omega, by rw [HV.out, HU1.out], hbv⟩
          case measure => simp [RowKit.intOf]; omega
    · have hun : ¬ (u : Int) < (P.length : Int) := by omega
      have HUE : Hid (K0 u = E.length) := by unfold Hid; rw [show u = P.length by omega]; exact HNE.out
      have m1 := b5r.cell 1 rfl
      have h2r := h210.trans (hbr.mono h210.size)
      have hBr := hB10.trans (hbr.mono hB10.size)
      have hlb : ((E.length : Int) != (E.length : Int)) = false := bne_self_eq_false _
      have HVB11 := Lib.hid (RdC.below HVB10.out hbr)
      have HVC11 := Lib.hid (RdC.below HVC10.out hbr)
      have bnr := bn10.below hbr bn10.lt
      rw [HUE.out]
      clear HUE HNX HNS HNK HN0 HN1 HNE hu h HVB10 HVC10 bn10 b510
      go_wp2_with fail
      refine (HBO.out wr _ _ (RdC.below HPP.out h2r) (RdC.below HTT.out h2r) (hg.below hBr)).mono ?_
      rintro e o11 ⟨_, rfl, ⟨va, vd, rfl, hva, hvd⟩, hb⟩
      have hB11 := hBr.trans (hb.mono hBr.size)
      have h211 := h2r.trans (hb.mono h2r.size)
      have b511 := b5r.below hb b5r.lt
      have bn11 := bnr.below hb bnr.lt
      have HSA : Hid (Calls Tryz.prog 18 #[vb, va] o11 (Drawn (fun r => r = .bool true) o11)) := by
        have h := same_any o11 vb va c c (RdC.below HVB11.out hb) hva (by omega) (by omega)
        rw [decide_eq_true rfl] at h
        exact h
      have HSB : Hid (∀ nd, Calls Tryz.prog 18 #[vc, vd] (o11.drewN nd) (Drawn (fun r => r = .bool true) (o11.drewN nd))) := fun nd => by
        have h := same_any (o11.drewN nd) vc vd CL CL (RdC.below (RdC.below HVC11.out hb) (below_drewN o11 nd)) (RdC.below hvd (below_drewN o11 nd)) (by have := HCL.out; omega) (by have := HCL.out; omega)
        rw [decide_eq_true rfl] at h
        exact h
      clear m0 m1 hb hva hvd HVB11 HVC11 hBr h2r b5r bnr
      go_wp2_with fail
      refine HSA.out.mono ?_
      rintro e x1 ⟨_, rfl, rfl, nd, rfl⟩
      go_wp2_with fail
      refine (HSB.out nd).mono ?_
      rintro e x2 ⟨_, rfl, rfl, nd2, rfl⟩
      have hb12 : Below o11.heap.size o11 ((o11.drewN nd).drewN nd2) := (below_drewN o11 nd).trans ((below_drewN _ nd2).mono (below_drewN o11 nd).size)
      obtain ⟨o12, ho12⟩ : ∃ o, o = (o11.drewN nd).drewN nd2 := ⟨_, rfl⟩
      rw [← ho12] at hb12 ⊢
      clear ho12 HSA HSB
      have hB12 := hB11.trans (hb12.mono hB11.size)
      have h212 := h211.trans (hb12.mono h211.size)
      have b512 := b511.below hb12 b511.lt
      have bn12 := bn11.below hb12 bn11.lt
      clear hB11 h211 b511 bn11 hb12 hlb
      have m0 := b512.cell 0 rfl
      have m1 := b512.cell 1 rfl
      have q0 := bn12.cell 0 rfl
      have q1 := bn12.cell 1 rfl
      have q2 := bn12.cell 2 rfl
      rcases HCS.out with ⟨hout, rfl, rfl, rfl, rfl⟩ | ⟨t, tr, rfl, htr, rfl, e0, e1, e2⟩
      · have hQ := HQ3.out 0 0 0
        clear HCS
        rcases (by omega : tz < 0 ∨ (¬ tz < 0 ∧ (T.length : Int) ≤ tz)) with h1 | ⟨h1, h2⟩
        · have h1d : decide (tz < 0) = true := decide_eq_true h1
          clear hout
          go_wp2_with fail
          go_ret
          exact ⟨_, rfl, rfl, hB12⟩
        · have h1d : decide (tz < 0) = false := decide_eq_false h1
          have h2d : decide ((T.length : Int) ≤ tz) = true := decide_eq_true h2
          clear hout
          go_wp2_with fail
          go_ret
          exact ⟨_, rfl, rfl, hB12⟩
      · clear HCS
        obtain ⟨htl, htr2⟩ := List.getElem?_eq_some_iff.1 htr
        obtain ⟨bt, ot, rfl, hbt, hcc⟩ := HTC.out (List.ne_nil_of_length_pos (by omega))
        obtain ⟨d0, d1, d2⟩ := hcc t htl
        rw [htr2] at d0 d1 d2
        have k0 := (h212.cell (p := ⟨bt, ot + t * 3, none⟩) hbt).trans d0
        have k1 := (h212.cell (p := ⟨bt, ot + t * 3 + 1, none⟩) hbt).trans d1
        have k2 := (h212.cell (p := ⟨bt, ot + t * 3 + 2, none⟩) hbt).trans d2
        have htn : ¬ (t : Int) < 0 := by omega
        have htz : (t : Int) < (T.length : Int) := by omega
        have htd : decide ((T.length : Int) ≤ (t : Int)) = false := decide_eq_false (by omega)
        have htd2 : decide ((t : Int) < 0) = false := decide_eq_false htn
        have htd3 : decide (T.length ≤ t) = false := decide_eq_false (by omega)
        have htd4 : ¬ T.length ≤ t := by omega
        have hbt12 : bt < o12.heap.size := Nat.lt_of_lt_of_le hbt h212.size
        obtain ⟨t0, t1, t2⟩ := tr
        dsimp only at k0 k1 k2 e0 e1 e2
        have HCC : Hid (∀ j : Nat, j < 3 → ∃ (jc : Nat) (x y nj : Int), jc < 3 ∧ ((j : Int) + 1).tmod 3 = (jc : Int) ∧ nj = sideI T x y ∧ o12.cell? ⟨o6.heap.size, j, none⟩ = some (.int .i64 nj) ∧
            (∀ w' b, BoxN w' b 51 [.int .i64 t0, .int .i64 t1, .int .i64 t2] → w'.cell? ⟨b, jc, none⟩ = some (.int .i64 x) ∧ w'.cell? ⟨b, j, none⟩ = some (.int .i64 y))) := fun j hj => by
          rcases (by omega : j = 0 ∨ j = 1 ∨ j = 2) with rfl | rfl | rfl
          · exact ⟨1, _, _, _, by omega, by decide, e0, q0, fun w' b h => ⟨h.cell 1 rfl, h.cell 0 rfl⟩⟩
          · exact ⟨2, _, _, _, by omega, by decide, e1, q1, fun w' b h => ⟨h.cell 2 rfl, h.cell 1 rfl⟩⟩
          · exact ⟨0, _, _, _, by omega, by decide, e2, q2, fun w' b h => ⟨h.cell 0 rfl, h.cell 2 rfl⟩⟩
        have hln := bn12.lt
        have hlm := b512.lt
        clear htr htr2 d0 d1 d2 hcc e0 e1 e2 q0 q1 q2 HTC bn12
        go_wp2_with fail
        go_loopw [21, 22] (fun t21 _ wr => ∃ j : Nat, t21 = .int .i64 j ∧ j ≤ 3 ∧ Below o12.heap.size o12 wr) (fun t21 _ _ => 3 - (RowKit.intOf t21).toNat)
        case atStart => exact ⟨0, rfl, by omega, Below.refl _ _⟩
        case round =>
          obtain ⟨j, rfl, hj, hbj⟩ := hrel
          clear m0 m1
          have b5j := b512.below hbj b512.lt
          have m0 := b5j.cell 0 rfl
          have m1 := b5j.cell 1 rfl
          rcases Nat.lt_or_ge j 3 with h3 | h3
          · obtain ⟨jc, x, y, nj, hjc3, hjc, hnj, hcn, hct⟩ := HCC.out j h3
            have i0 := (hbj.cell (p := ⟨bt, ot + t * 3, none⟩) hbt12).trans k0
            have i1 := (hbj.cell (p := ⟨bt, ot + t * 3 + 1, none⟩) hbt12).trans k1
            have i2 := (hbj.cell (p := ⟨bt, ot + t * 3 + 2, none⟩) hbt12).trans k2
            have n3 := (hbj.cell (p := ⟨o6.heap.size, j, none⟩) hln).trans hcn
            have h2j := h212.trans (hbj.mono h212.size)
            have hjz : (j : Int) < 3 := by omega
            have hjcz : (jc : Int) < 3 := by omega
            have hw1 : IntKind.i64.wrap ((j : Int) + 1) = (j : Int) + 1 := IntWalk.i64_in _ (by omega)
            have hw5 : IntKind.i64.wrap (jc : Int) = (jc : Int) := IntWalk.i64_in _ (by omega)
            have HNJ := Lib.hid hnj
            clear hcn hnj
            go_upto_region 31 with fail
            obtain ⟨x1, hx1⟩ : ∃ W, W = wr.alloc (.cells #[.int .i64 t0, .int .i64 t1, .int .i64 t2] 51) := ⟨_, rfl⟩
            have hbx : Below wr.heap.size wr x1 := by rw [hx1]; exact (Below.refl _ _).alloc (Nat.le_refl _) _
            have bx : BoxN x1 wr.heap.size 51 [.int .i64 t0, .int .i64 t1, .int .i64 t2] := by rw [hx1]; exact BoxN.new _ _ _ _ rfl
            rw [← hx1]
            clear hx1
            obtain ⟨r0, r1⟩ := hct _ _ bx
            have hlx := bx.lt
            have b5x := b5j.below hbx b5j.lt
            have hl5 := b5x.lt
            have hl6 : o6.heap.size < x1.heap.size := Nat.lt_of_lt_of_le hln (Nat.le_trans hbj.size hbx.size)
            have hbjx := hbj.trans (hbx.mono hbj.size)
            have n3 := (hbx.cell (p := ⟨o6.heap.size, j, none⟩) (Nat.lt_of_lt_of_le hln hbj.size)).trans n3
            have h2x := h2j.trans (hbx.mono h2j.size)
            clear m0 m1 i0 i1 i2 hct bx b5j hbx h2j
            have m0 := b5x.cell 0 rfl
            have m1 := b5x.cell 1 rfl
            have HSX : Hid (Calls Tryz.prog 16 #[.agg #[.slice pp P.length cp, .slice (some ⟨bt, ot, none⟩) T.length ct], .int .i64 x, .int .i64 y] x1.drew (Ret (fun r _ => r = .int .i64 (sideI T x y)) x1.drew)) := HSD.out x y _ _ _ (RdC.below HPP.out (h2x.trans ((below_drewN x1 1).mono h2x.size))) (RdC.below HTT.out (h2x.trans ((below_drewN x1 1).mono h2x.size)))
            have hgd : Good x1.drew := (hg.below (hB12.trans (hbjx.mono hB12.size))).drewN 1
            rw [← HNJ.out] at HSX
            have hnn : (nj != nj) = false := bne_self_eq_false _
            go_region_held3 (fun w' => w'.cell? ⟨o6.heap.size, j, none⟩ = some (.int .i64 nj) ∧ w'.cell? ⟨o2.heap.size, 0, none⟩ = some (.slice pp P.length cp) ∧ w'.cell? ⟨o2.heap.size, 1, none⟩ = some (.slice (some ⟨bt, ot, none⟩) T.length ct) ∧ w'.cell? ⟨wr.heap.size, jc, none⟩ = some (.int .i64 x) ∧ w'.cell? ⟨wr.heap.size, j, none⟩ = some (.int .i64 y))
              (first | exact ⟨n3, m0, m1, r0, r1⟩ | exact ⟨p_1_0, p_1_1, p_1_2, p_1_3, p_1_4⟩)
              (first
              | (go_at_call 16; refine (HSX.out).mono ?_; rintro e pw1 ⟨_, rfl, rfl, pb1⟩
                 have p_1_0 := (pb1.cell (p := ⟨o6.heap.size, j, none⟩) (by show o6.heap.size < x1.heap.size; omega)).trans n3
                 have p_1_1 := (pb1.cell (p := ⟨o2.heap.size, 0, none⟩) (by show o2.heap.size < x1.heap.size; omega)).trans m0
                 have p_1_2 := (pb1.cell (p := ⟨o2.heap.size, 1, none⟩) (by show o2.heap.size < x1.heap.size; omega)).trans m1
                 have p_1_3 := (pb1.cell (p := ⟨wr.heap.size, jc, none⟩) (by show wr.heap.size < x1.heap.size; omega)).trans r0
                 have p_1_4 := (pb1.cell (p := ⟨wr.heap.size, j, none⟩) (by show wr.heap.size < x1.heap.size; omega)).trans r1
                 have ps1 : x1.heap.size ≤ pw1.heap.size := pb1.size
                 have pg1 : Good pw1 := hgd.below pb1))
            have pB : Below x1.heap.size x1 pw1 := ((below_drewN x1 1).trans (pb1.mono (by show x1.heap.size ≤ x1.heap.size; omega)))
            have hbq := hbjx.trans (pB.mono hbjx.size)
            go_wp2_with fail
            go_roundw
            case rel => exact ⟨j + 1, by go_num, by omega, hbq⟩
            case measure => simp [RowKit.intOf]; omega
          · have hjn : ¬ (j : Int) < 3 := by omega
            go_wp2_with fail
            go_ret
            exact ⟨_, rfl, rfl, hB12.trans (hbj.mono hB12.size)⟩

theorem meshEdges_all (w : World) (kz s0 s1 : Int) (half : Bool) (tz : Int) (hk0 : 0 ≤ kz) (hk1 : kz ≤ 255) (hs0 : -128 ≤ s0 ∧ s0 ≤ 127) (hs1 : -128 ≤ s1 ∧ s1 ≤ 127) (hg : Good w) :
    Calls Tryz.prog 3 #[.agg #[.int .u8 kz, .int .i8 s0, .int .i8 s1, .bool half], .int .i64 tz] w (Ret (fun r _ => r = .bool true) w) := by
  obtain ⟨kk, hk⟩ : ∃ k : Nat, kz.tmod 8 = (k : Int) := ⟨(kz.tmod 8).toNat, by have := Int.tmod_nonneg 8 hk0; omega⟩
  have HMK := Lib.hid fun w hg => make12_any w kz s0 s1 half kk hk hk0 hk1 hs0 hs1 hg
  obtain ⟨P, hP⟩ : ∃ P, P = sheetP kk s0 s1 half := ⟨_, rfl⟩
  obtain ⟨T, hT⟩ : ∃ T, T = shapeT kk := ⟨_, rfl⟩
  have hM : MeshOK P T 2 := by rw [hP, hT]; exact sheet_ok kk s0 s1 half
  have hT6 : T.length ≤ 6 := by rw [hT]; unfold shapeT; split <;> decide
  have hP6 : P.length ≤ 6 := by rw [hP, sheetP_length]; exact shapeP_len kk
  have hF := edg_facts kk s0 s1 half P hP T hT
  obtain ⟨-, f2, f3, -, -⟩ := sum_facts kk s0 s1 half P hP T hT
  rw [← hP, ← hT] at HMK
  clear hP hT
  have hP0 : 0 < P.length := by obtain ⟨v, hv, _⟩ := hF.first; omega
  have hE64 : (edgesL (keysOf T)).length ≤ 64 := by
    rw [← hF.edges]
    have h := edgPre_len T P.length P.length
    have h2 : P.length * P.length ≤ 8 * 8 := Nat.mul_le_mul (by omega) (by omega)
    exact Nat.le_trans h h2
  have key : ∃ n0 n1 n2 ge : Int, Hid (∀ (w : World) (vp vt : Value), RdP w vp (strP P) → RdT w vt T → Good w → Calls Tryz.prog 12 #[.agg #[vp, vt], .int .i64 tz] w (Ret (fun r _ => r = .tuple #[.agg #[.int .i64 n0, .int .i64 n1, .int .i64 n2], .int .i64 ge]) w)) ∧
      Hid ((tz < 0 ∨ (T.length : Int) ≤ tz) ∧ n0 = 0 ∧ n1 = 0 ∧ n2 = 0 ∧ ge = 3 ∨ ∃ (t : Nat) (tr : Tri), tz = (t : Int) ∧ T[t]? = some tr ∧ ge = 0 ∧ n0 = sideI T tr.2.1 tr.1 ∧ n1 = sideI T tr.2.2 tr.2.1 ∧ n2 = sideI T tr.1 tr.2.2) := by
    by_cases h : tz < 0 ∨ (T.length : Int) ≤ tz
    · exact ⟨0, 0, 0, 3, fun w vp vt hp ht hg => neighbours_range w vp vt P T 2 hp ht hM tz h hg, .inl ⟨h, rfl, rfl, rfl, rfl⟩⟩
    · obtain ⟨t, rfl⟩ : ∃ t : Nat, tz = (t : Int) := ⟨tz.toNat, by omega⟩
      have htl : t < T.length := by omega
      exact ⟨_, _, _, 0, fun w vp vt hp ht hg => neighbours_any w vp vt P T 2 hp ht hM t htl T[t] rfl hg, .inr ⟨t, T[t], rfl, List.getElem?_eq_getElem htl, rfl, rfl, rfl, rfl⟩⟩
  obtain ⟨n0, n1, n2, ge, HNB, HCS⟩ := key
  have HBD : ∀ (w : World) (vp vt : Value), RdP w vp (strP P) → RdT w vt T → Good w → _ := fun w vp vt hp ht hg => boundary_ok w vp vt P T 2 hp ht hM hg
  refine meshEdges_walk w kz s0 s1 half tz P T (outerL (keysOf T)) (edgesL (keysOf T)) n0 n1 n2 ge (by omega) hP0 hT6 hF.len (fun u v => (edgPre T P.length u ++ edgRow T u v).length) (fun u => (edgPre T P.length u).length) rfl
    (fun u v h1 h2 h3 h4 => by rw [← hF.edges]; exact edgPre_next T P.length u v h1 h2 h3 h4) (fun u v h1 h2 => by rw [edgRow_succ, if_pos ⟨h1, h2⟩]; simp; omega) (fun u v h => by rw [edgRow_succ, if_neg (fun x => x.2 h), List.append_nil])
    (fun u => by rw [edgRow_low T u _ (Nat.le_refl _), List.append_nil]) (fun u => by rw [edgPre_succ]) (by unfold Hid; rw [← hF.edges]; rfl) hE64 HMK
    (fun w vp vt hp ht hg => by rw [hF.hull]; exact marea_ok w vp vt P T 2 hp ht hM (by omega) hg)
    (fun w vp vt hp ht hg => edges_ok w vp vt P T 2 hp ht hM (meshIE hM) (meshSmE hM) f2 f3 hg)
    HNB HBD
    (fun w vp vt hp ht hg => corners_ok w vp vt P T 2 hp ht hM hF.rng (by have := hF.len; omega) (fun w' hb hg' => HBD w' _ _ (RdC.below hp hb) (RdC.below ht hb) hg') hg)
    (fun w vp hp hg => lhull_any w vp P hp hM.sz hP0 (by omega) hg)
    (fun w vp vt hp ht hg => lborder_any w vp vt P T _ hp ht hM.sz (by omega) (by omega) hF hg) HCS hg

end Go.Proofs.YtdhcliekejiegaaGreatDoor
