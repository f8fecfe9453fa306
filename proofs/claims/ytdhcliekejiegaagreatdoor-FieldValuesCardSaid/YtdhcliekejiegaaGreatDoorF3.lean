import Derived.Test.YtdhcliekejiegaaGreatDoorE2
import Derived.Test.YtdhcliekejiegaaGreatDoorK3
/- The walks over klipperef05.Area, klippelaw13.corners, klippelaw13.On. -/
set_option maxHeartbeats 4000000
set_option maxRecDepth 100000
namespace Go.Proofs.YtdhcliekejiegaaGreatDoor
open Go.RowKit Go.Lib
theorem minor05_any (a b c d : Rat) (k : Nat) (hk : 0 < k) (hk2 : k ≤ 4000) (ha : Sz k a) (hb : Sz k b) (hc : Sz k c) (hd : Sz k d) (w : World) (hg : Good w) :
 Calls Tryz.prog 136 #[.string (RS a), .string (RS b), .string (RS c), .string (RS d)] w (Ret (fun r _ => r = .string (RS (a * b - c * d))) w) := by
 have H1 : Hid (∀ w, Good w → _) := fun w hg => mulQ_any a b k hk (by omega) ha hb w hg
 have H2 : Hid (∀ w, Good w → _) := fun w hg => mulQ_any c d k hk (by omega) hc hd w hg
 have z1 : Sz (2 * k) (a * b) := (ha.mul hb).mono (by omega)
 have z2 : Sz (2 * k) (c * d) := (hc.mul hd).mono (by omega)
 have H3 : Hid (∀ w, Good w → _) := fun w hg => subQ_any (a * b) (c * d) (2 * k) (by omega) (by omega) z1 z2 w hg
 generalize a * b = x at *
 generalize c * d = y at *
 clear ha hb hc hd z1 z2
 go_enter Tryz.func136, Tryz.ntmps136
 go_wp2_with fail
 refine (H1.out w hg).mono ?_
 rintro e w1 ⟨_, rfl, rfl, hb1⟩
 go_wp2_with fail
 refine (H2.out w1 (hg.below hb1)).mono ?_
 rintro e w2 ⟨_, rfl, rfl, hb2⟩
 have hB2 := hb1.trans (hb2.mono hb1.size)
 go_wp2_with fail
 refine (H3.out w2 (hg.below hB2)).mono ?_
 rintro e w3 ⟨_, rfl, rfl, hb3⟩
 go_wp2_with fail
 go_ret
 exact ⟨_, rfl, rfl, hB2.trans (hb3.mono hB2.size)⟩
theorem area05_any (a b c : PtQ) (k : Nat) (hk : 0 < k) (hk2 : k ≤ 1000) (ha : SzP k a) (hb : SzP k b) (hc : SzP k c) (w : World) (hg : Good w) :
 Calls Tryz.prog 78 #[VP a, VP b, VP c] w (Ret (fun r _ => r = .string (RS (areaQ a b c))) w) := by
 obtain ⟨W, hW, ⟨a0, a1⟩, ⟨b0, b1⟩, ⟨c0, c1⟩, hbW, hsz⟩ := three_boxes w a b c 59
 have hgW := hg.below hbW
 obtain ⟨ax, ay⟩ := a
 obtain ⟨bx, bY⟩ := b
 obtain ⟨cx, cy⟩ := c
 unfold VP areaQ
 dsimp only [SzP] at *
 have HW := Lib.hid hW
 have H1 : Hid (∀ w, Good w → _) := fun w hg => subQ_any bx ax k hk (by omega) hb.1 ha.1 w hg
 have H2 : Hid (∀ w, Good w → _) := fun w hg => subQ_any cy ay k hk (by omega) hc.2 ha.2 w hg
 have H3 : Hid (∀ w, Good w → _) := fun w hg => subQ_any bY ay k hk (by omega) hb.2 ha.2 w hg
 have H4 : Hid (∀ w, Good w → _) := fun w hg => subQ_any cx ax k hk (by omega) hc.1 ha.1 w hg
 have d1 : Sz (2 * k + 1) (bx - ax) := (hb.1.sub ha.1).mono (by omega)
 have d2 : Sz (2 * k + 1) (cy - ay) := (hc.2.sub ha.2).mono (by omega)
 have d3 : Sz (2 * k + 1) (bY - ay) := (hb.2.sub ha.2).mono (by omega)
 have d4 : Sz (2 * k + 1) (cx - ax) := (hc.1.sub ha.1).mono (by omega)
 have H5 : Hid (∀ w, Good w → _) := fun w hg => minor05_any (bx - ax) (cy - ay) (bY - ay) (cx - ax) (2 * k + 1) (by omega) (by omega) d1 d2 d3 d4 w hg
 generalize bx - ax = x1 at *
 generalize cy - ay = x2 at *
 generalize bY - ay = x3 at *
 generalize cx - ax = x4 at *
 clear hW ha hb hc d1 d2 d3 d4
 go_enter Tryz.func78, Tryz.ntmps78
 have hgd : Good W.drew := hgW.drewN 1
 go_upto_region 1 with fail
 rw [← HW.out]
 go_region_held3 (fun w' => w'.cell? ⟨w.heap.size, 0, none⟩ = some (.string (RS ax)) ∧ w'.cell? ⟨w.heap.size, 1, none⟩ = some (.string (RS ay)) ∧ w'.cell? ⟨w.heap.size + 1, 0, none⟩ = some (.string (RS bx)) ∧ w'.cell? ⟨w.heap.size + 1, 1, none⟩ = some (.string (RS bY)) ∧ w'.cell? ⟨w.heap.size + 2, 0, none⟩ = some (.string (RS cx)) ∧ w'.cell? ⟨w.heap.size + 2, 1, none⟩ = some (.string (RS cy)))
  (first | exact ⟨a0, a1, b0, b1, c0, c1⟩ | exact ⟨p_1_0, p_1_1, p_1_2, p_1_3, p_1_4, p_1_5⟩ | exact ⟨p_2_0, p_2_1, p_2_2, p_2_3, p_2_4, p_2_5⟩ | exact ⟨p_3_0, p_3_1, p_3_2, p_3_3, p_3_4, p_3_5⟩ | exact ⟨p_4_0, p_4_1, p_4_2, p_4_3, p_4_4, p_4_5⟩ | exact ⟨p_5_0, p_5_1, p_5_2, p_5_3, p_5_4, p_5_5⟩)
  (first
  | (go_at_call 136; refine (H5.out _ pg4).mono ?_; rintro e pw5 ⟨_, rfl, rfl, pb5⟩
     have p_5_0 := zct pb5 p_4_0
     have p_5_1 := zct pb5 p_4_1
     have p_5_2 := zct pb5 p_4_2
     have p_5_3 := zct pb5 p_4_3
     have p_5_4 := zct pb5 p_4_4
     have p_5_5 := zct pb5 p_4_5
     have ps5 : pw4.heap.size ≤ pw5.heap.size := pb5.size
     have pg5 : Good pw5 := pg4.below pb5)
  | (go_at_call 27; refine (H4.out _ pg3).mono ?_; rintro e pw4 ⟨_, rfl, rfl, pb4⟩
     have p_4_0 := zct pb4 p_3_0
     have p_4_1 := zct pb4 p_3_1
     have p_4_2 := zct pb4 p_3_2
     have p_4_3 := zct pb4 p_3_3
     have p_4_4 := zct pb4 p_3_4
     have p_4_5 := zct pb4 p_3_5
     have ps4 : pw3.heap.size ≤ pw4.heap.size := pb4.size
     have pg4 : Good pw4 := pg3.below pb4)
  | (go_at_call 27; refine (H3.out _ pg2).mono ?_; rintro e pw3 ⟨_, rfl, rfl, pb3⟩
     have p_3_0 := zct pb3 p_2_0
     have p_3_1 := zct pb3 p_2_1
     have p_3_2 := zct pb3 p_2_2
     have p_3_3 := zct pb3 p_2_3
     have p_3_4 := zct pb3 p_2_4
     have p_3_5 := zct pb3 p_2_5
     have ps3 : pw2.heap.size ≤ pw3.heap.size := pb3.size
     have pg3 : Good pw3 := pg2.below pb3)
  | (go_at_call 27; refine (H2.out _ pg1).mono ?_; rintro e pw2 ⟨_, rfl, rfl, pb2⟩
     have p_2_0 := zct pb2 p_1_0
     have p_2_1 := zct pb2 p_1_1
     have p_2_2 := zct pb2 p_1_2
     have p_2_3 := zct pb2 p_1_3
     have p_2_4 := zct pb2 p_1_4
     have p_2_5 := zct pb2 p_1_5
     have ps2 : pw1.heap.size ≤ pw2.heap.size := pb2.size
     have pg2 : Good pw2 := pg1.below pb2)
  | (go_at_call 27; refine (H1.out _ hgd).mono ?_; rintro e pw1 ⟨_, rfl, rfl, pb1⟩
     have p_1_0 := zct pb1 a0
     have p_1_1 := zct pb1 a1
     have p_1_2 := zct pb1 b0
     have p_1_3 := zct pb1 b1
     have p_1_4 := zct pb1 c0
     have p_1_5 := zct pb1 c1
     have ps1 : W.heap.size ≤ pw1.heap.size := pb1.size
     have pg1 : Good pw1 := hgd.below pb1))
 have pB : Below W.heap.size W pw5 := zbt (zbt (zbt (zbt (zbt (below_drewN W 1) pb1) pb2) pb3) pb4) pb5
 have hB7 := hbW.trans (pB.mono hbW.size)
 go_wp2_with fail
 go_ret
 exact ⟨_, rfl, rfl, hB7⟩
theorem lcorn13_any (w : World) (vp vt : Value) (P : List PtQ) (T : List Tri) (k : Nat) (hp : RdP w vp (strP P)) (ht : RdT w vt T) (hm : MeshIn P T k) (t : Nat) (htl : t < T.length) (tr : Tri) (htr : tr = T[t]) (_hg : Good w) :
 Calls Tryz.prog 74 #[.agg #[vp, vt], .int .i64 (t : Int)] w (Ret (fun r w' => RdP w' r (strP [ptI P tr.1, ptI P tr.2.1, ptI P tr.2.2])) w) := by
 obtain ⟨pp, cp, rfl, hpc, hpm, hpr⟩ := hp.open
 obtain ⟨pt, ct, rfl, htc, htm, htr'⟩ := ht.open
 rw [strP_length] at hpc ⊢
 obtain ⟨bt, ot, rfl, hbt, hcell⟩ := htr' (List.ne_nil_of_length_pos (by omega))
 obtain ⟨e0, e1, e2⟩ := hcell t htl
 rw [← htr] at e0 e1 e2
 have hidx := hm.idx tr (by rw [htr]; exact List.getElem_mem htl)
 obtain ⟨q0z, q1z, q2z⟩ := tr
 dsimp only at hidx e0 e1 e2 ⊢
 obtain ⟨a00, a01⟩ := hidx q0z (by simp [idxOf])
 obtain ⟨a10, a11⟩ := hidx q1z (by simp [idxOf])
 obtain ⟨a20, a21⟩ := hidx q2z (by simp [idxOf])
 obtain ⟨q0, rfl⟩ : ∃ q : Nat, q0z = (q : Int) := ⟨q0z.toNat, by omega⟩
 obtain ⟨q1, rfl⟩ : ∃ q : Nat, q1z = (q : Int) := ⟨q1z.toNat, by omega⟩
 obtain ⟨q2, rfl⟩ : ∃ q : Nat, q2z = (q : Int) := ⟨q2z.toNat, by omega⟩
 have g0 : q0 < P.length := by omega
 have g1 : q1 < P.length := by omega
 have g2 : q2 < P.length := by omega
 obtain ⟨bp, op, rfl, hbp, hpc'⟩ := hpr (by intro e; have h := strP_length P; rw [e] at h; simp at h; omega)
 rw [ptI_nat P q0 g0, ptI_nat P q1 g1, ptI_nat P q2 g2]
 obtain ⟨k00, k01⟩ := hpc' q0 (by rw [strP_length]; exact g0)
 obtain ⟨k10, k11⟩ := hpc' q1 (by rw [strP_length]; exact g1)
 obtain ⟨k20, k21⟩ := hpc' q2 (by rw [strP_length]; exact g2)
 rw [strP_get P q0 g0] at k00 k01
 rw [strP_get P q1 g1] at k10 k11
 rw [strP_get P q2 g2] at k20 k21
 dsimp only at k00 k01 k10 k11 k20 k21
 have f0 : (q0 : Int) < (P.length : Int) := by omega
 have f1 : (q1 : Int) < (P.length : Int) := by omega
 have f2 : (q2 : Int) < (P.length : Int) := by omega
 generalize P[q0] = p0 at *
 generalize P[q1] = p1 at *
 generalize P[q2] = p2 at *
 have htz : (t : Int) < (T.length : Int) := by omega
 have hwt : IntKind.i64.wrap (t : Int) = (t : Int) := IntWalk.i64_in _ (by have := hm.tlen; omega)
 clear htr hidx hpr hpc' hp hm ht htr' hcell a00 a01 a10 a11 a20 a21
 go_enter Tryz.func74, Tryz.ntmps74
 go_upto_region 1 with fail
 obtain ⟨W, hW⟩ : ∃ W, W = w.alloc (.cells #[.slice (some ⟨bp, op, none⟩) P.length cp, .slice (some ⟨bt, ot, none⟩) T.length ct] 30) := ⟨_, rfl⟩
 have hB : Below w.heap.size w W := by rw [hW]; exact zal _ _
 have b1 : BoxN W w.heap.size 30 [.slice (some ⟨bp, op, none⟩) P.length cp, .slice (some ⟨bt, ot, none⟩) T.length ct] := by rw [hW]; exact BoxN.new _ _ _ _ rfl
 rw [← hW]
 clear hW
 have m0 := b1.cell 0 rfl
 have m1 := b1.cell 1 rfl
 have t0 := zcq hB hbt e0
 have t1 := zcq hB hbt e1
 have t2 := zcq hB hbt e2
 go_upto_region 2 with fail
 obtain ⟨V, hV⟩ : ∃ V, V = W.alloc (.cells #[.int .i64 (q0 : Int), .int .i64 (q1 : Int), .int .i64 (q2 : Int)] 51) := ⟨_, rfl⟩
 have hbV : Below W.heap.size W V := by rw [hV]; exact zal _ _
 have bT : BoxN V W.heap.size 51 [.int .i64 (q0 : Int), .int .i64 (q1 : Int), .int .i64 (q2 : Int)] := by rw [hV]; exact BoxN.new _ _ _ _ rfl
 rw [← hV]
 clear hV m0 m1 t0 t1 t2
 have hB2 := hB.trans (hbV.mono hB.size)
 have b2 := b1.below hbV b1.lt
 have m0 := b2.cell 0 rfl
 have t0 := bT.cell 0 rfl
 have t1 := bT.cell 1 rfl
 have t2 := bT.cell 2 rfl
 have l00 := zcq hB2 hbp k00
 have l01 := zcq hB2 hbp k01
 have l10 := zcq hB2 hbp k10
 have l11 := zcq hB2 hbp k11
 have l20 := zcq hB2 hbp k20
 have l21 := zcq hB2 hbp k21
 have lb := b2.lt
 have lt := bT.lt
 have lp : bp < V.heap.size := Nat.lt_of_lt_of_le hbp hB2.size
 have HS : Hid (∀ w', Below V.heap.size V w' → w'.cell? ⟨w.heap.size, 0, none⟩ = some (.slice (some ⟨bp, op, none⟩) P.length cp) ∧ w'.cell? ⟨W.heap.size, 0, none⟩ = some (.int .i64 (q0 : Int)) ∧ w'.cell? ⟨W.heap.size, 1, none⟩ = some (.int .i64 (q1 : Int)) ∧ w'.cell? ⟨W.heap.size, 2, none⟩ = some (.int .i64 (q2 : Int)) ∧ w'.cell? ⟨bp, op + q0 * 2, none⟩ = some (.string (RS p0.1)) ∧ w'.cell? ⟨bp, op + q0 * 2 + 1, none⟩ = some (.string (RS p0.2)) ∧ w'.cell? ⟨bp, op + q1 * 2, none⟩ = some (.string (RS p1.1)) ∧ w'.cell? ⟨bp, op + q1 * 2 + 1, none⟩ = some (.string (RS p1.2)) ∧ w'.cell? ⟨bp, op + q2 * 2, none⟩ = some (.string (RS p2.1)) ∧ w'.cell? ⟨bp, op + q2 * 2 + 1, none⟩ = some (.string (RS p2.2))) := fun w' hb => ⟨(zcq hb lb m0 :), (zcq hb lt t0 :), (zcq hb lt t1 :), (zcq hb lt t2 :), (zcq hb lp l00 :), (zcq hb lp l01 :), (zcq hb lp l10 :), (zcq hb lp l11 :), (zcq hb lp l20 :), (zcq hb lp l21 :)⟩
 have hq00 : Below V.heap.size V V.drew := below_drewN V 1
 clear k00 k01 k10 k11 k20 k21 e0 e1 e2 b1 b2 bT hbt hbp
 go_region_held3 (fun w' => w'.cell? ⟨w.heap.size, 0, none⟩ = some (.slice (some ⟨bp, op, none⟩) P.length cp) ∧ w'.cell? ⟨W.heap.size, 0, none⟩ = some (.int .i64 (q0 : Int)) ∧ w'.cell? ⟨W.heap.size, 1, none⟩ = some (.int .i64 (q1 : Int)) ∧ w'.cell? ⟨W.heap.size, 2, none⟩ = some (.int .i64 (q2 : Int)) ∧ w'.cell? ⟨bp, op + q0 * 2, none⟩ = some (.string (RS p0.1)) ∧ w'.cell? ⟨bp, op + q0 * 2 + 1, none⟩ = some (.string (RS p0.2)) ∧ w'.cell? ⟨bp, op + q1 * 2, none⟩ = some (.string (RS p1.1)) ∧ w'.cell? ⟨bp, op + q1 * 2 + 1, none⟩ = some (.string (RS p1.2)) ∧ w'.cell? ⟨bp, op + q2 * 2, none⟩ = some (.string (RS p2.1)) ∧ w'.cell? ⟨bp, op + q2 * 2 + 1, none⟩ = some (.string (RS p2.2)))
  ((refine HS.out _ ?_; repeat (first | with_reducible exact hq00 | with_reducible exact Below.refl _ _ | with_reducible refine Below.drew ?_ | ((with_reducible refine Below.setCell ?_ ?_ _); rotate_left; (first | omega | (simp <;> omega))) | ((with_reducible refine Below.alloc ?_ ?_ _); rotate_left; (first | exact Nat.le_refl _ | omega | (simp <;> omega))))))
  (first | fail)
 all_goals
  go_wp2_with fail
  have hBV : Below w.heap.size w V.drew := hB2.trans ((below_drewN V 1).mono hB2.size)
  go_ret
  first
   | exact ⟨_, rfl, RdC.fresh 2 _ _ _ 3 rfl (by omega) _ rfl _ rfl, hBV.alloc hBV.size _⟩
   | exact ⟨_, rfl, (RdC.fresh 2 _ _ _ 3 rfl (by omega) _ rfl _ rfl).below (below_drewN _ 1), (hB2.alloc hB2.size _).trans ((below_drewN _ 1).mono (hB2.alloc hB2.size _).size)⟩
theorem ptF_sz {P : List PtQ} {m : Nat} (h : ∀ p ∈ P, SzP m p) (hk : 0 < m) (z : Int) : SzP m (ptI P z) := by
 unfold ptI
 rcases Nat.lt_or_ge z.toNat P.length with h1 | h1
 ·rw [List.getElem?_eq_getElem h1]; exact h _ (List.getElem_mem h1)
 ·rw [List.getElem?_eq_none h1]; exact ⟨Sz.zero _ hk, Sz.zero _ hk⟩
def lonA (P : List PtQ) (tr : Tri) : Nat → PtQ | 0 => ptI P tr.1 | 1 => ptI P tr.2.1 | _ => ptI P tr.2.2
def lonF (F : List Rat) (tr : Tri) : Nat → Rat | 0 => hI F tr.1 | 1 => hI F tr.2.1 | _ => hI F tr.2.2
def lonTo (P : List PtQ) (F : List Rat) (tr : Tri) (p : PtQ) : Nat → Rat
 | 0 => 0
 | i + 1 => lonTo P F tr p i + areaQ p (lonA P tr ((i + 1) % 3)) (lonA P tr ((i + 2) % 3)) * lonF F tr i
theorem lonT_to (P : List PtQ) (F : List Rat) (tr : Tri) (p : PtQ) : lonT P F tr p = lonTo P F tr p 3 / areaQ (ptI P tr.1) (ptI P tr.2.1) (ptI P tr.2.2) := rfl
theorem lon13_any (w : World) (vp vt vf : Value) (P : List PtQ) (T : List Tri) (k : Nat) (F : List Rat) (h : FieldIn w vp vt vf P T k F) (t : Nat) (htl : t < T.length) (tr : Tri) (htr : tr = T[t]) (p : PtQ) (m : Nat) (hm : m ≤ 300) (hp : SzP m p) (hkm : k ≤ m) (hg : Good w) :
 Calls Tryz.prog 26 #[.agg #[vp, vt], vf, .int .i64 (t : Int), .agg #[.string (RS p.1), .string (RS p.2)]] w (Ret (fun r _ => r = .string (RS (lonT P F tr p))) w) := by
 have hm0 : 0 < m := by have := h.m.kpos; omega
 have hmem : tr ∈ T := by rw [htr]; exact List.getElem_mem htl
 have hidx := h.m.idx tr hmem
 have hfl := h.fl
 have hAne : areaQ (ptI P tr.1) (ptI P tr.2.1) (ptI P tr.2.2) ≠ 0 := by have := areaQ_pos h.m hmem; intro e; rw [e] at this; exact absurd this (by decide)
 have zP : ∀ i, SzP m (lonA P tr i) := fun i => by
  have hs : ∀ p ∈ P, SzP m p := fun p hp => ⟨(h.m.sz p hp).1.mono hkm, (h.m.sz p hp).2.mono hkm⟩
  unfold lonA; split <;> exact ptF_sz hs hm0 _
 have zF : ∀ i, Sz m (lonF F tr i) := fun i => by
  have hs : ∀ z : Int, Sz m (hI F z) := fun z => by
   unfold hI
   rcases Nat.lt_or_ge z.toNat F.length with h1 | h1
   ·rw [List.getElem?_eq_getElem h1]; exact (h.fs _ (List.getElem_mem h1)).mono hkm
   ·rw [List.getElem?_eq_none h1]; exact Sz.zero _ hm0
  unfold lonF; split <;> exact hs _
 have zS : ∀ i j, Sz (8 * m + 6) (areaQ p (lonA P tr i) (lonA P tr j)) := fun i j => (areaQ_Sz hp (zP i) (zP j)).mono (by omega)
 have zT : ∀ i, Sz ((9 * m + 7) * i + 1) (lonTo P F tr p i) := fun i => by
  induction i with
  | zero => exact Sz.zero 1 (by omega)
  | succ i ih => exact (ih.add ((zS _ _).mul (zF i))).mono (by rw [Nat.mul_add]; omega)
 have HCN : Hid (∀ w', Below w.heap.size w w' → Good w' → Calls Tryz.prog 74 #[.agg #[vp, vt], .int .i64 (t : Int)] w' (Ret (fun r w' => RdP w' r (strP [ptI P tr.1, ptI P tr.2.1, ptI P tr.2.2])) w')) := fun w' hb hg => lcorn13_any w' vp vt P T k (RdC.below h.p hb) (RdC.below h.t hb) h.m.toMeshIn t htl tr htr hg
 have HAR : Hid (∀ (i j : Nat) (w : World), Good w → _) := fun i j w hg => area05_any p (lonA P tr i) (lonA P tr j) m hm0 (by omega) hp (zP i) (zP j) w hg
 have HA2 : Hid (∀ (w : World), Good w → _) := fun w hg => area05_any (lonA P tr 0) (lonA P tr 1) (lonA P tr 2) m hm0 (by omega) (zP 0) (zP 1) (zP 2) w hg
 have HMU : Hid (∀ (i : Nat) (w : World), Good w → _) := fun i w hg => mulQ_any (areaQ p (lonA P tr ((i + 1) % 3)) (lonA P tr ((i + 2) % 3))) (lonF F tr i) (9 * m + 6) (by omega) (by omega) ((zS _ _).mono (by omega)) ((zF i).mono (by omega)) w hg
 have HAD : Hid (∀ (i : Nat), i < 3 → ∀ (w : World), Good w → _) := fun i hi w hg => addQ_any (lonTo P F tr p i) (areaQ p (lonA P tr ((i + 1) % 3)) (lonA P tr ((i + 2) % 3)) * lonF F tr i) ((9 * m + 7) * 3 + 1) (by omega) (by omega) ((zT i).mono (by have := Nat.mul_le_mul_left (9 * m + 7) (show i ≤ 3 by omega); omega)) (((zS _ _).mul (zF i)).mono (by omega)) w hg
 have HDV : Hid (∀ (w : World), Good w → _) := fun w hg => divQ_any (lonTo P F tr p 3) (areaQ (lonA P tr 0) (lonA P tr 1) (lonA P tr 2)) ((9 * m + 7) * 3 + 1) (by omega) (by omega) (zT 3) ((areaQ_Sz (zP 0) (zP 1) (zP 2)).mono (by omega)) hAne w hg
 rw [lonT_to]
 rw [show areaQ (ptI P tr.1) (ptI P tr.2.1) (ptI P tr.2.2) = areaQ (lonA P tr 0) (lonA P tr 1) (lonA P tr 2) from rfl]
 obtain ⟨bt, ot, ct, rfl, hbt, e0, e1, e2⟩ := h.tri t htl
 have HFT : Hid (∀ i : Nat, i < 3 → ∃ (q : Nat) (bf of cf : Nat), q < F.length ∧ vf = .slice (some ⟨bf, of, none⟩) F.length cf ∧ bf < w.heap.size ∧ w.cell? ⟨bt, ot + t * 3 + i, none⟩ = some (.int .i64 (q : Int)) ∧ w.cell? ⟨bf, of + q, none⟩ = some (.string (RS (lonF F tr i)))) := fun i hi => by
  rw [← htr] at e0 e1 e2
  have key : ∀ z : Int, 0 ≤ z → z < P.length → ∃ (q : Nat) (bf of cf : Nat), z = (q : Int) ∧ q < F.length ∧ vf = .slice (some ⟨bf, of, none⟩) F.length cf ∧ bf < w.heap.size ∧ w.cell? ⟨bf, of + q, none⟩ = some (.string (RS (hI F z))) := fun z h0 h1 => by
   obtain ⟨q, rfl⟩ : ∃ q : Nat, z = (q : Int) := ⟨z.toNat, by omega⟩
   obtain ⟨bf, of, cf, hv, hbf, ef⟩ := h.hgt q (by omega)
   exact ⟨q, bf, of, cf, rfl, by omega, hv, hbf, ef⟩
  rcases (by omega : i = 0 ∨ i = 1 ∨ i = 2) with rfl | rfl | rfl
  ·obtain ⟨q, bf, of, cf, hq, x1, x2, x3, x4⟩ := key tr.1 (hidx _ (by simp [idxOf])).1 (hidx _ (by simp [idxOf])).2
   exact ⟨q, bf, of, cf, x1, x2, x3, by rw [← hq]; exact e0, x4⟩
  ·obtain ⟨q, bf, of, cf, hq, x1, x2, x3, x4⟩ := key tr.2.1 (hidx _ (by simp [idxOf])).1 (hidx _ (by simp [idxOf])).2
   exact ⟨q, bf, of, cf, x1, x2, x3, by rw [← hq]; exact e1, x4⟩
  ·obtain ⟨q, bf, of, cf, hq, x1, x2, x3, x4⟩ := key tr.2.2 (hidx _ (by simp [idxOf])).1 (hidx _ (by simp [idxOf])).2
   exact ⟨q, bf, of, cf, x1, x2, x3, by rw [← hq]; exact e2, x4⟩
 obtain ⟨pp, cp, rfl, -, -, -⟩ := h.p.open
 rw [strP_length] at *
 rw [show strP [ptI P tr.1, ptI P tr.2.1, ptI P tr.2.2] = strP [lonA P tr 0, lonA P tr 1, lonA P tr 2] from rfl] at HCN
 have HTO : Hid (∀ i, lonTo P F tr p (i + 1) = lonTo P F tr p i + areaQ p (lonA P tr ((i + 1) % 3)) (lonA P tr ((i + 2) % 3)) * lonF F tr i) := fun i => rfl
 have hto0 : lonTo P F tr p 0 = 0 := rfl
 have htz : (t : Int) < (T.length : Int) := by omega
 have hwt : IntKind.i64.wrap (t : Int) = (t : Int) := IntWalk.i64_in _ (by have := h.m.tlen; omega)
 have hT8 := h.m.tlen
 unfold VP at HAR HA2
 generalize lonTo P F tr p = LT at *
 generalize lonA P tr = A at *
 generalize lonF F tr = Fz at *
 clear h hidx htr hmem e0 e1 e2 hAne zP zF zS zT hp hfl
 go_enter Tryz.func26, Tryz.ntmps26
 go_upto_region 1 with fail
 obtain ⟨W, hW⟩ : ∃ W, W = (w.alloc (.cells #[.slice pp P.length cp, .slice (some ⟨bt, ot, none⟩) T.length ct] 30)).alloc (.cells #[.string (RS p.1), .string (RS p.2)] 59) := ⟨_, rfl⟩
 have hB : Below w.heap.size w W := by rw [hW]; exact zal2 _ _ _
 have b7 : BoxN W (w.heap.size + 1) 59 [.string (RS p.1), .string (RS p.2)] := by rw [hW]; exact BoxN.new _ _ _ _ (by simp)
 have b4 : BoxN W w.heap.size 30 [.slice pp P.length cp, .slice (some ⟨bt, ot, none⟩) T.length ct] := by
  rw [hW]
  have h1 := (BoxN.new w #[.slice pp P.length cp, .slice (some ⟨bt, ot, none⟩) T.length ct] 30 _ rfl)
  exact h1.below (zal _ _) h1.lt
 rw [← hW]
 clear hW
 have m0 := b4.cell 0 rfl
 have m1 := b4.cell 1 rfl
 go_wp2_with fail
 refine (HCN.out W hB (hg.below hB)).mono ?_
 rintro e w1 ⟨_, rfl, hrc, hb1⟩
 have hB1 := hB.trans (hb1.mono hB.size)
 have b71 := b7.below hb1 b7.lt
 have b41 := b4.below hb1 b4.lt
 obtain ⟨pc, cc, rfl, -, -, hcc⟩ := hrc.open
 obtain ⟨bc, oc, rfl, hbc, hcel⟩ := hcc (by simp [strP])
 have HCC : Hid (∀ i : Nat, i < 3 → w1.cell? ⟨bc, oc + i * 2, none⟩ = some (.string (RS (A i).1)) ∧ w1.cell? ⟨bc, oc + i * 2 + 1, none⟩ = some (.string (RS (A i).2))) := fun i hi => by
  rcases (by omega : i = 0 ∨ i = 1 ∨ i = 2) with rfl | rfl | rfl
  ·exact hcel 0 (by simp [strP])
  ·exact hcel 1 (by simp [strP])
  ·exact hcel 2 (by simp [strP])
 rw [show (strP [A 0, A 1, A 2]).length = 3 from rfl]
 have HJ : Hid (∀ i : Nat, i < 3 → ∃ jb jc : Nat, jb < 3 ∧ jc < 3 ∧ jb = (i + 1) % 3 ∧ jc = (i + 2) % 3 ∧ ((i : Int) + 1).tmod 3 = (jb : Int) ∧ ((i : Int) + 2).tmod 3 = (jc : Int)) := fun i hi => by
  rcases (by omega : i = 0 ∨ i = 1 ∨ i = 2) with rfl | rfl | rfl
  ·exact ⟨1, 2, by omega, by omega, rfl, rfl, by decide, by decide⟩
  ·exact ⟨2, 0, by omega, by omega, rfl, rfl, by decide, by decide⟩
  ·exact ⟨0, 1, by omega, by omega, rfl, rfl, by decide, by decide⟩
 clear hb1 hB b7 b4 m0 m1 hrc hcc hcel HCN
 go_wp2_with fail
 go_loopw [10, 11] (fun t10 t11 wr => ∃ i : Nat, t11 = .int .i64 i ∧ i ≤ 3 ∧ t10 = .string (RS (LT i)) ∧ Below w1.heap.size w1 wr) (fun _ t11 _ => 3 - (RowKit.intOf t11).toNat)
 case atStart => exact ⟨0, rfl, Nat.zero_le _, by rw [hto0, RS_zero], Below.refl _ _⟩
 case round =>
  obtain ⟨i, rfl, hi, rfl, hbr⟩ := hrel
  have hBr := hB1.trans (hbr.mono hB1.size)
  have hbcr : bc < wr.heap.size := Nat.lt_of_lt_of_le hbc hbr.size
  rcases Nat.lt_or_ge i 3 with h3 | h3
  ·have hiz : (i : Int) < 3 := by omega
   obtain ⟨jb, jc, hjb, hjc, ejb, ejc, hr1, hr2⟩ := HJ.out i h3
   obtain ⟨q, bf, of, cf, hqF, rfl, hbf, ct0, cf0⟩ := HFT.out i h3
   have HS1 := Lib.hid (HTO.out i)
   rw [← ejb, ← ejc] at HS1
   have HA1 : Hid (∀ (w : World), Good w → _) := fun w hg => HAR.out jb jc w hg
   have HM1 : Hid (∀ (w : World), Good w → _) := fun w hg => HMU.out i w hg
   have HD1 : Hid (∀ (w : World), Good w → _) := fun w hg => HAD.out i h3 w hg
   rw [← ejb, ← ejc] at HM1 HD1
   have x0 := zcq hbr hbc (HCC.out jb hjb).1
   have x1 := zcq hbr hbc (HCC.out jb hjb).2
   have x2 := zcq hbr hbc (HCC.out jc hjc).1
   have x3 := zcq hbr hbc (HCC.out jc hjc).2
   have b7r := b71.below hbr b71.lt
   have b4r := b41.below hbr b41.lt
   have y0 := b7r.cell 0 rfl
   have y1 := b7r.cell 1 rfl
   have hl7 := b7r.lt
   have hgd : Good wr.drew := (hg.below hBr).drewN 1
   have hw1 : IntKind.i64.wrap ((i : Int) + 1) = (i : Int) + 1 := IntWalk.i64_in _ (by omega)
   have hw2 : IntKind.i64.wrap ((i : Int) + 2) = (i : Int) + 2 := IntWalk.i64_in _ (by omega)
   have hw3 : IntKind.i64.wrap (jb : Int) = (jb : Int) := IntWalk.i64_in _ (by omega)
   have hw4 : IntKind.i64.wrap (jc : Int) = (jc : Int) := IntWalk.i64_in _ (by omega)
   have hjbz : (jb : Int) < 3 := by omega
   have hjcz : (jc : Int) < 3 := by omega
   generalize areaQ p (A jb) (A jc) = ar at *
   generalize A jb = pb at *
   generalize A jc = pd at *
   clear ejb ejc
   go_wp2_with fail
   go_region_held3 (fun w' => w'.cell? ⟨w.heap.size + 1, 0, none⟩ = some (.string (RS p.1)) ∧ w'.cell? ⟨w.heap.size + 1, 1, none⟩ = some (.string (RS p.2)) ∧ w'.cell? ⟨bc, oc + jb * 2, none⟩ = some (.string (RS pb.1)) ∧ w'.cell? ⟨bc, oc + jb * 2 + 1, none⟩ = some (.string (RS pb.2)) ∧ w'.cell? ⟨bc, oc + jc * 2, none⟩ = some (.string (RS pd.1)) ∧ w'.cell? ⟨bc, oc + jc * 2 + 1, none⟩ = some (.string (RS pd.2)))
    (first | exact ⟨y0, y1, x0, x1, x2, x3⟩ | exact ⟨p_1_0, p_1_1, p_1_2, p_1_3, p_1_4, p_1_5⟩)
    (first
    | (go_at_call 78; refine (HA1.out _ hgd).mono ?_; rintro e pw1 ⟨_, rfl, rfl, pb1⟩
       have p_1_0 := zct pb1 y0
       have p_1_1 := zct pb1 y1
       have p_1_2 := zct pb1 x0
       have p_1_3 := zct pb1 x1
       have p_1_4 := zct pb1 x2
       have p_1_5 := zct pb1 x3
       have ps1 : wr.heap.size ≤ pw1.heap.size := pb1.size
       have pg1 : Good pw1 := hgd.below pb1))
   have pB : Below wr.heap.size wr pw1 := zbt (below_drewN wr 1) pb1
   have hbq := hbr.trans (pB.mono hbr.size)
   have hBq := hBr.trans (pB.mono hBr.size)
   have b4q := b4r.below pB b4r.lt
   have m1 := b4q.cell 1 rfl
   have c0 := zcq hBq hbt ct0
   have c1 := zcq hBq hbf cf0
   have hqz : (q : Int) < (F.length : Int) := by omega
   clear x0 x1 x2 x3 y0 y1 b7r b4r hw1 hw2 hw3 hw4 hr1 hr2 hgd HA1
   go_wp2_with fail
   refine (HM1.out _ (hg.below hBq)).mono ?_
   rintro e w3 ⟨_, rfl, rfl, hb3⟩
   have hbq3 := hbq.trans (hb3.mono hbq.size)
   have hBq3 := hBq.trans (hb3.mono hBq.size)
   clear m1 c0 c1 hb3
   go_wp2_with fail
   refine (HD1.out _ (hg.below hBq3)).mono ?_
   rintro e w4 ⟨_, rfl, rfl, hb4⟩
   have hbq4 := hbq3.trans (hb4.mono hbq3.size)
   go_wp2_with fail
   go_roundw
   case rel => exact ⟨i + 1, by go_num, by omega, by rw [HS1.out], hbq4⟩
   case measure => simp [RowKit.intOf]; omega
  ·have hin : ¬ (i : Int) < 3 := by omega
   have HI : Hid (i = 3) := by unfold Hid; omega
   rw [HI.out]
   have x0 := (hbr.cell (p := ⟨bc, oc + 0 * 2, none⟩) hbc).trans (HCC.out 0 (by omega)).1
   have x1 := (hbr.cell (p := ⟨bc, oc + 0 * 2 + 1, none⟩) hbc).trans (HCC.out 0 (by omega)).2
   have x2 := (hbr.cell (p := ⟨bc, oc + 1 * 2, none⟩) hbc).trans (HCC.out 1 (by omega)).1
   have x3 := (hbr.cell (p := ⟨bc, oc + 1 * 2 + 1, none⟩) hbc).trans (HCC.out 1 (by omega)).2
   have x4 := (hbr.cell (p := ⟨bc, oc + 2 * 2, none⟩) hbc).trans (HCC.out 2 (by omega)).1
   have x5 := (hbr.cell (p := ⟨bc, oc + 2 * 2 + 1, none⟩) hbc).trans (HCC.out 2 (by omega)).2
   simp only [Nat.zero_mul, Nat.one_mul, Nat.reduceMul, Nat.add_zero, Nat.add_assoc, Nat.reduceAdd] at x0 x1 x2 x3 x4 x5
   have hgd : Good wr.drew := (hg.below hBr).drewN 1
   obtain ⟨ar, har⟩ : ∃ a, a = areaQ (A 0) (A 1) (A 2) := ⟨_, rfl⟩
   rw [← har] at HA2 HDV
   have HAE := Lib.hid har
   clear hi h3 har
   go_wp2_with fail
   go_region_held3 (fun w' => w'.cell? ⟨bc, oc, none⟩ = some (.string (RS (A 0).1)) ∧ w'.cell? ⟨bc, oc + 1, none⟩ = some (.string (RS (A 0).2)) ∧ w'.cell? ⟨bc, oc + 2, none⟩ = some (.string (RS (A 1).1)) ∧ w'.cell? ⟨bc, oc + 3, none⟩ = some (.string (RS (A 1).2)) ∧ w'.cell? ⟨bc, oc + 4, none⟩ = some (.string (RS (A 2).1)) ∧ w'.cell? ⟨bc, oc + 5, none⟩ = some (.string (RS (A 2).2)))
    (first | exact ⟨x0, x1, x2, x3, x4, x5⟩ | exact ⟨p_1_0, p_1_1, p_1_2, p_1_3, p_1_4, p_1_5⟩ | exact ⟨p_2_0, p_2_1, p_2_2, p_2_3, p_2_4, p_2_5⟩)
    (first
    | (go_at_call 79; refine (HDV.out _ pg1).mono ?_; rintro e pw2 ⟨_, rfl, rfl, pb2⟩
       have p_2_0 := zct pb2 p_1_0
       have p_2_1 := zct pb2 p_1_1
       have p_2_2 := zct pb2 p_1_2
       have p_2_3 := zct pb2 p_1_3
       have p_2_4 := zct pb2 p_1_4
       have p_2_5 := zct pb2 p_1_5
       have ps2 : pw1.heap.size ≤ pw2.heap.size := pb2.size
       have pg2 : Good pw2 := pg1.below pb2)
    | (go_at_call 78; refine (HA2.out _ hgd).mono ?_; rintro e pw1 ⟨_, rfl, rfl, pb1⟩
       have p_1_0 := zct pb1 x0
       have p_1_1 := zct pb1 x1
       have p_1_2 := zct pb1 x2
       have p_1_3 := zct pb1 x3
       have p_1_4 := zct pb1 x4
       have p_1_5 := zct pb1 x5
       have ps1 : wr.heap.size ≤ pw1.heap.size := pb1.size
       have pg1 : Good pw1 := hgd.below pb1))
   have pB : Below wr.heap.size wr pw2 := zbt (zbt (below_drewN wr 1) pb1) pb2
   go_wp2_with fail
   go_ret
   exact ⟨_, rfl, (by rw [HAE.out]; exact rfl), hBr.trans (pB.mono hBr.size)⟩
end Go.Proofs.YtdhcliekejiegaaGreatDoor
