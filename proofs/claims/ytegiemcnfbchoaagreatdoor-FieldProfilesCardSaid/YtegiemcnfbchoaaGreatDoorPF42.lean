import Derived.Test.YtegiemcnfbchoaaGreatDoorPF62
/- The walks over klipperef05.Area, klippelaw13.corners, klippelaw13.On. The walk over klipperef02.Right, of any text. The walk over klipperef05.RightPoint. The walks over klipperef05.Turn, RightPoint, klipperef09.Where. The walk over klippelaw13.At. Plain The walks over field.combine with rational.Sub, field.Excess. klippelaw12.Place by 3 -/
set_option maxHeartbeats 4000000
set_option maxRecDepth 100000
namespace Go.Proofs.YtegiemcnfbchoaaGreatDoor
open Go.RowKit Go.Lib
theorem minor05_any (a b c d : Rat) (k : Nat) (hk : 0 < k) (hk2 : k <= 4000) (ha : Sz k a) (hb : Sz k b) (hc : Sz k c) (hd : Sz k d) (w : World) (hg : Good w) :
 Calls Tryz.prog 72 #[.string (RS a), .string (RS b), .string (RS c), .string (RS d)] w (Ret (fun r _ => r = .string (RS (a * b - c * d))) w) := by
 have H1 := hid fun w hg => mulQ_any a b k hk (by omega) ha hb w hg
 have H2 := hid fun w hg => mulQ_any c d k hk (by omega) hc hd w hg
 have z1 : Sz (2 * k) (a * b) := (ha.mul hb).mono (by omega);have z2 : Sz (2 * k) (c * d) := (hc.mul hd).mono (by omega);have H3 := hid fun w hg => subQ_any (a * b) (c * d) (2 * k) (by omega) (by omega) z1 z2 w hg
 generalize a * b = x at *;generalize c * d = y at *;clear ha hb hc hd z1 z2;go_enter Tryz.func72, Tryz.ntmps72;go_wp2_with fail;refine (H1.out w hg).mono ?_;rintro e w1 ⟨_, rfl, rfl, hb1⟩;go_wp2_with fail;refine (H2.out w1 (hg.below hb1)).mono ?_;rintro e w2 ⟨_, rfl, rfl, hb2⟩;have hB2 := hb1.trans (hb2.mono hb1.size);go_wp2_with fail;refine (H3.out w2 (hg.below hB2)).mono ?_;rintro e w3 ⟨_, rfl, rfl, hb3⟩;go_wp2_with fail;go_ret;exact ⟨_, rfl, rfl, hB2.trans (hb3.mono hB2.size)⟩
theorem area05_any (a b c : PtQ) (k : Nat) (hk : 0 < k) (hk2 : k <= 1000) (ha : SzP k a) (hb : SzP k b) (hc : SzP k c) (w : World) (hg : Good w) :
 Calls Tryz.prog 25 #[VP a, VP b, VP c] w (Ret (fun r _ => r = .string (RS (areaQ a b c))) w) := by
 obtain ⟨W, hW, ⟨a0, a1⟩, ⟨b0, b1⟩, ⟨c0, c1⟩, hbW, hsz⟩ := three_boxes w a b c 33;have hgW := hg.below hbW;obtain ⟨ax, ay⟩ := a;obtain ⟨bx, bY⟩ := b;obtain ⟨cx, cy⟩ := c;unfold VP areaQ;dsimp only [SzP] at *;have HW := hid hW;have H1 := hid fun w hg => subQ_any bx ax k hk (by omega) hb.1 ha.1 w hg
 have H2 := hid fun w hg => subQ_any cy ay k hk (by omega) hc.2 ha.2 w hg
 have H3 := hid fun w hg => subQ_any bY ay k hk (by omega) hb.2 ha.2 w hg
 have H4 := hid fun w hg => subQ_any cx ax k hk (by omega) hc.1 ha.1 w hg
 have d1 : Sz (2 * k + 1) (bx - ax) := (hb.1.sub ha.1).mono (by omega);have d2 : Sz (2 * k + 1) (cy - ay) := (hc.2.sub ha.2).mono (by omega);have d3 : Sz (2 * k + 1) (bY - ay) := (hb.2.sub ha.2).mono (by omega);have d4 : Sz (2 * k + 1) (cx - ax) := (hc.1.sub ha.1).mono (by omega);have H5 := hid fun w hg => minor05_any (bx - ax) (cy - ay) (bY - ay) (cx - ax) (2 * k + 1) (by omega) (by omega) d1 d2 d3 d4 w hg
 generalize bx - ax = x1 at *;generalize cy - ay = x2 at *;generalize bY - ay = x3 at *;generalize cx - ax = x4 at *;clear hW ha hb hc d1 d2 d3 d4;go_enter Tryz.func25, Tryz.ntmps25;have hgd : Good W.drew := hgW.drewN 1;go_upto_region 1 with fail;rw [<- HW.out];go_region_held3 (fun w' => w'.cell? ⟨w.heap.size, 0, none⟩ = some (.string (RS ax)) /\ w'.cell? ⟨w.heap.size, 1, none⟩ = some (.string (RS ay)) /\ w'.cell? ⟨w.heap.size + 1, 0, none⟩ = some (.string (RS bx)) /\ w'.cell? ⟨w.heap.size + 1, 1, none⟩ = some (.string (RS bY)) /\ w'.cell? ⟨w.heap.size + 2, 0, none⟩ = some (.string (RS cx)) /\ w'.cell? ⟨w.heap.size + 2, 1, none⟩ = some (.string (RS cy)))
  (first | exact ⟨a0, a1, b0, b1, c0, c1⟩ | exact ⟨p_1_0, p_1_1, p_1_2, p_1_3, p_1_4, p_1_5⟩ | exact ⟨p_2_0, p_2_1, p_2_2, p_2_3, p_2_4, p_2_5⟩ | exact ⟨p_3_0, p_3_1, p_3_2, p_3_3, p_3_4, p_3_5⟩ | exact ⟨p_4_0, p_4_1, p_4_2, p_4_3, p_4_4, p_4_5⟩ | exact ⟨p_5_0, p_5_1, p_5_2, p_5_3, p_5_4, p_5_5⟩)
  (first
  | (go_at_call 72; refine (H5.out _ pg4).mono ?_; rintro e pw5 ⟨_, rfl, rfl, pb5⟩
     have p_5_0 := zct pb5 p_4_0;have p_5_1 := zct pb5 p_4_1;have p_5_2 := zct pb5 p_4_2;have p_5_3 := zct pb5 p_4_3;have p_5_4 := zct pb5 p_4_4;have p_5_5 := zct pb5 p_4_5;have ps5 := pb5.size;have pg5 := pg4.below pb5)
  | (go_at_call 16; refine (H4.out _ pg3).mono ?_; rintro e pw4 ⟨_, rfl, rfl, pb4⟩
     have p_4_0 := zct pb4 p_3_0;have p_4_1 := zct pb4 p_3_1;have p_4_2 := zct pb4 p_3_2;have p_4_3 := zct pb4 p_3_3;have p_4_4 := zct pb4 p_3_4;have p_4_5 := zct pb4 p_3_5;have ps4 := pb4.size;have pg4 := pg3.below pb4)
  | (go_at_call 16; refine (H3.out _ pg2).mono ?_; rintro e pw3 ⟨_, rfl, rfl, pb3⟩
     have p_3_0 := zct pb3 p_2_0;have p_3_1 := zct pb3 p_2_1;have p_3_2 := zct pb3 p_2_2;have p_3_3 := zct pb3 p_2_3;have p_3_4 := zct pb3 p_2_4;have p_3_5 := zct pb3 p_2_5;have ps3 := pb3.size;have pg3 := pg2.below pb3)
  | (go_at_call 16; refine (H2.out _ pg1).mono ?_; rintro e pw2 ⟨_, rfl, rfl, pb2⟩
     have p_2_0 := zct pb2 p_1_0;have p_2_1 := zct pb2 p_1_1;have p_2_2 := zct pb2 p_1_2;have p_2_3 := zct pb2 p_1_3;have p_2_4 := zct pb2 p_1_4;have p_2_5 := zct pb2 p_1_5;have ps2 := pb2.size;have pg2 := pg1.below pb2)
  | (go_at_call 16; refine (H1.out _ hgd).mono ?_; rintro e pw1 ⟨_, rfl, rfl, pb1⟩
     have p_1_0 := zct pb1 a0;have p_1_1 := zct pb1 a1;have p_1_2 := zct pb1 b0;have p_1_3 := zct pb1 b1;have p_1_4 := zct pb1 c0;have p_1_5 := zct pb1 c1;have ps1 : W.heap.size <= pw1.heap.size := pb1.size;have pg1 := hgd.below pb1))
 have pB : Below W.heap.size W pw5 := zbt (zbt (zbt (zbt (zbt (bdN W 1) pb1) pb2) pb3) pb4) pb5;have hB7 := hbW.trans (pB.mono hbW.size);go_wp2_with fail;go_ret;exact ⟨_, rfl, rfl, hB7⟩
theorem lcorn13_any (w : World) (vp vt : Value) (P : List PtQ) (T : List Tri) (k : Nat) (hp : RdP w vp (strP P)) (ht : RdT w vt T) (hm : MeshIn P T k) (t : Nat) (htl : t < T.length) (tr : Tri) (htr : tr = T[t]) (_hg : Good w) :
 Calls Tryz.prog 23 #[.agg #[vp, vt], .int .i64 (t : Int)] w (Ret (fun r w' => RdP w' r (strP [ptI P tr.1, ptI P tr.2.1, ptI P tr.2.2])) w) := by
 obtain ⟨pp, cp, rfl, hpc, hpm, hpr⟩ := hp.open;obtain ⟨pt, ct, rfl, htc, htm, htr'⟩ := ht.open;rw [sPl] at hpc ⊢;obtain ⟨bt, ot, rfl, hbt, hcell⟩ := htr' (List.ne_nil_of_length_pos (by omega));obtain ⟨e0, e1, e2⟩ := hcell t htl;rw [<- htr] at e0 e1 e2;have hidx := hm.idx tr (by rw [htr]; exact List.getElem_mem htl);obtain ⟨q0z, q1z, q2z⟩ := tr;dsimp only at hidx e0 e1 e2 ⊢;obtain ⟨a00, a01⟩ := hidx q0z (by simp [idxOf]);obtain ⟨a10, a11⟩ := hidx q1z (by simp [idxOf]);obtain ⟨a20, a21⟩ := hidx q2z (by simp [idxOf]);obtain ⟨q0, rfl⟩ : ∃ q : Nat, q0z = (q : Int) := ⟨q0z.toNat, by omega⟩;obtain ⟨q1, rfl⟩ : ∃ q : Nat, q1z = (q : Int) := ⟨q1z.toNat, by omega⟩;obtain ⟨q2, rfl⟩ : ∃ q : Nat, q2z = (q : Int) := ⟨q2z.toNat, by omega⟩;have g0 : q0 < P.length := by omega
 have g1 : q1 < P.length := by omega
 have g2 : q2 < P.length := by omega
 obtain ⟨bp, op, rfl, hbp, hpc'⟩ := hpr (by intro e; have h := sPl P; rw [e] at h; simp at h; omega);rw [pIn P q0 g0, pIn P q1 g1, pIn P q2 g2];obtain ⟨k00, k01⟩ := hpc' q0 (by rw [sPl]; exact g0);obtain ⟨k10, k11⟩ := hpc' q1 (by rw [sPl]; exact g1);obtain ⟨k20, k21⟩ := hpc' q2 (by rw [sPl]; exact g2);rw [sPg P q0 g0] at k00 k01;rw [sPg P q1 g1] at k10 k11;rw [sPg P q2 g2] at k20 k21;dsimp only at k00 k01 k10 k11 k20 k21;have f0 : (q0 : Int) < (P.length : Int) := by omega
 have f1 : (q1 : Int) < (P.length : Int) := by omega
 have f2 : (q2 : Int) < (P.length : Int) := by omega
 generalize P[q0] = p0 at *;generalize P[q1] = p1 at *;generalize P[q2] = p2 at *;have htz : (t : Int) < (T.length : Int) := by omega
 have hwt : IntKind.i64.wrap (t : Int) = (t : Int) := IntWalk.i64_in _ (by have := hm.tlen; omega);clear htr hidx hpr hpc' hp hm ht htr' hcell a00 a01 a10 a11 a20 a21;go_enter Tryz.func23, Tryz.ntmps23;go_upto_region 1 with fail;obtain ⟨W, hW⟩ : ∃ W, W = w.alloc (.cells #[.slice (some ⟨bp, op, none⟩) P.length cp, .slice (some ⟨bt, ot, none⟩) T.length ct] 38) := ⟨_, rfl⟩;have hB : Below w.heap.size w W := by rw [hW]; exact zal _ _
 have b1 : BoxN W w.heap.size 38 [.slice (some ⟨bp, op, none⟩) P.length cp, .slice (some ⟨bt, ot, none⟩) T.length ct] := by rw [hW]; exact BoxN.new _ _ _ _ rfl
 rw [<- hW];clear hW;have m0 := b1.cell 0 rfl;have m1 := b1.cell 1 rfl;have t0 := zcq hB hbt e0;have t1 := zcq hB hbt e1;have t2 := zcq hB hbt e2;go_upto_region 2 with fail;obtain ⟨V, hV⟩ : ∃ V, V = W.alloc (.cells #[.int .i64 (q0 : Int), .int .i64 (q1 : Int), .int .i64 (q2 : Int)] 71) := ⟨_, rfl⟩;have hbV : Below W.heap.size W V := by rw [hV]; exact zal _ _
 have bT : BoxN V W.heap.size 71 [.int .i64 (q0 : Int), .int .i64 (q1 : Int), .int .i64 (q2 : Int)] := by rw [hV]; exact BoxN.new _ _ _ _ rfl
 rw [<- hV];clear hV m0 m1 t0 t1 t2;have hB2 := hB.trans (hbV.mono hB.size);have b2 := b1.below hbV b1.lt;have m0 := b2.cell 0 rfl;have t0 := bT.cell 0 rfl;have t1 := bT.cell 1 rfl;have t2 := bT.cell 2 rfl;have l00 := zcq hB2 hbp k00;have l01 := zcq hB2 hbp k01;have l10 := zcq hB2 hbp k10;have l11 := zcq hB2 hbp k11;have l20 := zcq hB2 hbp k20;have l21 := zcq hB2 hbp k21;have lb := b2.lt;have lt := bT.lt;have lp : bp < V.heap.size := Nat.lt_of_lt_of_le hbp hB2.size;have HS : Hid (∀ w', Below V.heap.size V w' -> w'.cell? ⟨w.heap.size, 0, none⟩ = some (.slice (some ⟨bp, op, none⟩) P.length cp) /\ w'.cell? ⟨W.heap.size, 0, none⟩ = some (.int .i64 (q0 : Int)) /\ w'.cell? ⟨W.heap.size, 1, none⟩ = some (.int .i64 (q1 : Int)) /\ w'.cell? ⟨W.heap.size, 2, none⟩ = some (.int .i64 (q2 : Int)) /\ w'.cell? ⟨bp, op + q0 * 2, none⟩ = some (.string (RS p0.1)) /\ w'.cell? ⟨bp, op + q0 * 2 + 1, none⟩ = some (.string (RS p0.2)) /\ w'.cell? ⟨bp, op + q1 * 2, none⟩ = some (.string (RS p1.1)) /\ w'.cell? ⟨bp, op + q1 * 2 + 1, none⟩ = some (.string (RS p1.2)) /\ w'.cell? ⟨bp, op + q2 * 2, none⟩ = some (.string (RS p2.1)) /\ w'.cell? ⟨bp, op + q2 * 2 + 1, none⟩ = some (.string (RS p2.2))) := fun w' hb => ⟨(zcq hb lb m0 :), (zcq hb lt t0 :), (zcq hb lt t1 :), (zcq hb lt t2 :), (zcq hb lp l00 :), (zcq hb lp l01 :), (zcq hb lp l10 :), (zcq hb lp l11 :), (zcq hb lp l20 :), (zcq hb lp l21 :)⟩;have hq00 : Below V.heap.size V V.drew := bdN V 1;clear k00 k01 k10 k11 k20 k21 e0 e1 e2 b1 b2 bT hbt hbp;go_region_held3 (fun w' => w'.cell? ⟨w.heap.size, 0, none⟩ = some (.slice (some ⟨bp, op, none⟩) P.length cp) /\ w'.cell? ⟨W.heap.size, 0, none⟩ = some (.int .i64 (q0 : Int)) /\ w'.cell? ⟨W.heap.size, 1, none⟩ = some (.int .i64 (q1 : Int)) /\ w'.cell? ⟨W.heap.size, 2, none⟩ = some (.int .i64 (q2 : Int)) /\ w'.cell? ⟨bp, op + q0 * 2, none⟩ = some (.string (RS p0.1)) /\ w'.cell? ⟨bp, op + q0 * 2 + 1, none⟩ = some (.string (RS p0.2)) /\ w'.cell? ⟨bp, op + q1 * 2, none⟩ = some (.string (RS p1.1)) /\ w'.cell? ⟨bp, op + q1 * 2 + 1, none⟩ = some (.string (RS p1.2)) /\ w'.cell? ⟨bp, op + q2 * 2, none⟩ = some (.string (RS p2.1)) /\ w'.cell? ⟨bp, op + q2 * 2 + 1, none⟩ = some (.string (RS p2.2)))
  ((refine HS.out _ ?_; repeat (first | with_reducible exact hq00 | with_reducible exact Below.refl _ _ | with_reducible refine Below.drew ?_ | ((with_reducible refine Below.setCell ?_ ?_ _); rotate_left; (first | omega | (simp <;> omega))) | ((with_reducible refine Below.alloc ?_ ?_ _); rotate_left; (first | exact Nat.le_refl _ | omega | (simp <;> omega))))))
  (first | fail)
 all_goals
  go_wp2_with fail;have hBV : Below w.heap.size w V.drew := hB2.trans ((bdN V 1).mono hB2.size);go_ret;first
   | exact ⟨_, rfl, RdC.fresh 2 _ _ _ 3 rfl (by omega) _ rfl _ rfl, hBV.alloc hBV.size _⟩
   | exact ⟨_, rfl, (RdC.fresh 2 _ _ _ 3 rfl (by omega) _ rfl _ rfl).below (bdN _ 1), (hB2.alloc hB2.size _).trans ((bdN _ 1).mono (hB2.alloc hB2.size _).size)⟩
theorem ptF_sz {P : List PtQ} {m : Nat} (h : ∀ p ∈ P, SzP m p) (hk : 0 < m) (z : Int) : SzP m (ptI P z) := by
 unfold ptI;rcases Nat.lt_or_ge z.toNat P.length with h1 | h1
 ·rw [List.getElem?_eq_getElem h1]; exact h _ (List.getElem_mem h1)
 ·rw [List.getElem?_eq_none h1]; exact ⟨Sz.zero _ hk, Sz.zero _ hk⟩
def lonA (P : List PtQ) (tr : Tri) : Nat -> PtQ | 0 => ptI P tr.1 | 1 => ptI P tr.2.1 | _ => ptI P tr.2.2
def lonF (F : List Rat) (tr : Tri) : Nat -> Rat | 0 => hI F tr.1 | 1 => hI F tr.2.1 | _ => hI F tr.2.2
def lonTo (P : List PtQ) (F : List Rat) (tr : Tri) (p : PtQ) : Nat -> Rat
 | 0 => 0
 | i + 1 => lonTo P F tr p i + areaQ p (lonA P tr ((i + 1) % 3)) (lonA P tr ((i + 2) % 3)) * lonF F tr i
theorem lonT_to (P : List PtQ) (F : List Rat) (tr : Tri) (p : PtQ) : lonT P F tr p = lonTo P F tr p 3 / areaQ (ptI P tr.1) (ptI P tr.2.1) (ptI P tr.2.2) := rfl
theorem lon13_any (w : World) (vp vt vf : Value) (P : List PtQ) (T : List Tri) (k : Nat) (F : List Rat) (h : FieldIn w vp vt vf P T k F) (t : Nat) (htl : t < T.length) (tr : Tri) (htr : tr = T[t]) (p : PtQ) (m : Nat) (hm : m <= 700) (hp : SzP m p) (hkm : k <= m) (hg : Good w) :
 Calls Tryz.prog 39 #[.agg #[vp, vt], vf, .int .i64 (t : Int), .agg #[.string (RS p.1), .string (RS p.2)]] w (Ret (fun r _ => r = .string (RS (lonT P F tr p))) w) := by
 have hm0 : 0 < m := by have := h.m.kpos; omega
 have hmem : tr ∈ T := by rw [htr]; exact List.getElem_mem htl
 have hidx := h.m.idx tr hmem;have hfl := h.fl;have hAne : areaQ (ptI P tr.1) (ptI P tr.2.1) (ptI P tr.2.2) ≠ 0 := by have := areaQ_pos h.m hmem; intro e; rw [e] at this; exact absurd this (by decide)
 have zP : ∀ i, SzP m (lonA P tr i) := fun i => by
  have hs : ∀ p ∈ P, SzP m p := fun p hp => ⟨(h.m.sz p hp).1.mono hkm, (h.m.sz p hp).2.mono hkm⟩;unfold lonA; split <;> exact ptF_sz hs hm0 _
 have zF : ∀ i, Sz m (lonF F tr i) := fun i => by
  have hs : ∀ z : Int, Sz m (hI F z) := fun z => by
   unfold hI;rcases Nat.lt_or_ge z.toNat F.length with h1 | h1
   ·rw [List.getElem?_eq_getElem h1]; exact (h.fs _ (List.getElem_mem h1)).mono hkm
   ·rw [List.getElem?_eq_none h1]; exact Sz.zero _ hm0
  unfold lonF; split <;> exact hs _
 have zS : ∀ i j, Sz (8 * m + 6) (areaQ p (lonA P tr i) (lonA P tr j)) := fun i j => (areaQ_Sz hp (zP i) (zP j)).mono (by omega)
 have zT : ∀ i, Sz ((9 * m + 7) * i + 1) (lonTo P F tr p i) := fun i => by
  induction i with
  | zero => exact Sz.zero 1 (by omega)
  | succ i ih => exact (ih.add ((zS _ _).mul (zF i))).mono (by rw [Nat.mul_add]; omega)
 have HCN : Hid (∀ w', Below w.heap.size w w' -> Good w' -> Calls Tryz.prog 23 #[.agg #[vp, vt], .int .i64 (t : Int)] w' (Ret (fun r w' => RdP w' r (strP [ptI P tr.1, ptI P tr.2.1, ptI P tr.2.2])) w')) := fun w' hb hg => lcorn13_any w' vp vt P T k (RdC.below h.p hb) (RdC.below h.t hb) h.m.toMeshIn t htl tr htr hg;have HAR : Hid (∀ (i j : Nat) (w : World), Good w -> _) := fun i j w hg => area05_any p (lonA P tr i) (lonA P tr j) m hm0 (by omega) hp (zP i) (zP j) w hg
 have HA2 := hid fun w hg => area05_any (lonA P tr 0) (lonA P tr 1) (lonA P tr 2) m hm0 (by omega) (zP 0) (zP 1) (zP 2) w hg
 have HMU : Hid (∀ (i : Nat) (w : World), Good w -> _) := fun i w hg => mulQ_any (areaQ p (lonA P tr ((i + 1) % 3)) (lonA P tr ((i + 2) % 3))) (lonF F tr i) (9 * m + 6) (by omega) (by omega) ((zS _ _).mono (by omega)) ((zF i).mono (by omega)) w hg
 have HAD : Hid (∀ (i : Nat), i < 3 -> ∀ (w : World), Good w -> _) := fun i hi w hg => addQ_any (lonTo P F tr p i) (areaQ p (lonA P tr ((i + 1) % 3)) (lonA P tr ((i + 2) % 3)) * lonF F tr i) ((9 * m + 7) * 3 + 1) (by omega) (by omega) ((zT i).mono (by have := Nat.mul_le_mul_left (9 * m + 7) (show i <= 3 by omega); omega)) (((zS _ _).mul (zF i)).mono (by omega)) w hg
 have HDV := hid fun w hg => divQ_any (lonTo P F tr p 3) (areaQ (lonA P tr 0) (lonA P tr 1) (lonA P tr 2)) ((9 * m + 7) * 3 + 1) (by omega) (by omega) (zT 3) ((areaQ_Sz (zP 0) (zP 1) (zP 2)).mono (by omega)) hAne w hg
 rw [lonT_to];rw [show areaQ (ptI P tr.1) (ptI P tr.2.1) (ptI P tr.2.2) = areaQ (lonA P tr 0) (lonA P tr 1) (lonA P tr 2) from rfl];obtain ⟨bt, ot, ct, rfl, hbt, e0, e1, e2⟩ := h.tri t htl;have HFT : Hid (∀ i : Nat, i < 3 -> ∃ (q : Nat) (bf of cf : Nat), q < F.length /\ vf = .slice (some ⟨bf, of, none⟩) F.length cf /\ bf < w.heap.size /\ w.cell? ⟨bt, ot + t * 3 + i, none⟩ = some (.int .i64 (q : Int)) /\ w.cell? ⟨bf, of + q, none⟩ = some (.string (RS (lonF F tr i)))) := fun i hi => by
  rw [<- htr] at e0 e1 e2;have key : ∀ z : Int, 0 <= z -> z < P.length -> ∃ (q : Nat) (bf of cf : Nat), z = (q : Int) /\ q < F.length /\ vf = .slice (some ⟨bf, of, none⟩) F.length cf /\ bf < w.heap.size /\ w.cell? ⟨bf, of + q, none⟩ = some (.string (RS (hI F z))) := fun z h0 h1 => by
   obtain ⟨q, rfl⟩ : ∃ q : Nat, z = (q : Int) := ⟨z.toNat, by omega⟩;obtain ⟨bf, of, cf, hv, hbf, ef⟩ := h.hgt q (by omega);exact ⟨q, bf, of, cf, rfl, by omega, hv, hbf, ef⟩
  rcases (by omega : i = 0 \/ i = 1 \/ i = 2) with rfl | rfl | rfl
  ·obtain ⟨q, bf, of, cf, hq, x1, x2, x3, x4⟩ := key tr.1 (hidx _ (by simp [idxOf])).1 (hidx _ (by simp [idxOf])).2
   exact ⟨q, bf, of, cf, x1, x2, x3, by rw [<- hq]; exact e0, x4⟩
  ·obtain ⟨q, bf, of, cf, hq, x1, x2, x3, x4⟩ := key tr.2.1 (hidx _ (by simp [idxOf])).1 (hidx _ (by simp [idxOf])).2
   exact ⟨q, bf, of, cf, x1, x2, x3, by rw [<- hq]; exact e1, x4⟩
  ·obtain ⟨q, bf, of, cf, hq, x1, x2, x3, x4⟩ := key tr.2.2 (hidx _ (by simp [idxOf])).1 (hidx _ (by simp [idxOf])).2
   exact ⟨q, bf, of, cf, x1, x2, x3, by rw [<- hq]; exact e2, x4⟩
 obtain ⟨pp, cp, rfl, -, -, -⟩ := h.p.open;rw [sPl] at *;rw [show strP [ptI P tr.1, ptI P tr.2.1, ptI P tr.2.2] = strP [lonA P tr 0, lonA P tr 1, lonA P tr 2] from rfl] at HCN;have HTO : Hid (∀ i, lonTo P F tr p (i + 1) = lonTo P F tr p i + areaQ p (lonA P tr ((i + 1) % 3)) (lonA P tr ((i + 2) % 3)) * lonF F tr i) := fun i => rfl;have hto0 : lonTo P F tr p 0 = 0 := rfl;have htz : (t : Int) < (T.length : Int) := by omega
 have hwt : IntKind.i64.wrap (t : Int) = (t : Int) := IntWalk.i64_in _ (by have := h.m.tlen; omega);have hT8 := h.m.tlen;unfold VP at HAR HA2;generalize lonTo P F tr p = LT at *;generalize lonA P tr = A at *;generalize lonF F tr = Fz at *;clear h hidx htr hmem e0 e1 e2 hAne zP zF zS zT hp hfl;go_enter Tryz.func39, Tryz.ntmps39;go_upto_region 1 with fail;obtain ⟨W, hW⟩ : ∃ W, W = (w.alloc (.cells #[.slice pp P.length cp, .slice (some ⟨bt, ot, none⟩) T.length ct] 38)).alloc (.cells #[.string (RS p.1), .string (RS p.2)] 33) := ⟨_, rfl⟩;have hB : Below w.heap.size w W := by rw [hW]; exact zal2 _ _ _
 have b7 : BoxN W (w.heap.size + 1) 33 [.string (RS p.1), .string (RS p.2)] := by rw [hW]; exact BoxN.new _ _ _ _ (by simp)
 have b4 : BoxN W w.heap.size 38 [.slice pp P.length cp, .slice (some ⟨bt, ot, none⟩) T.length ct] := by
  rw [hW];have h1 := (BoxN.new w #[.slice pp P.length cp, .slice (some ⟨bt, ot, none⟩) T.length ct] 38 _ rfl);exact h1.below (zal _ _) h1.lt
 rw [<- hW];clear hW;have m0 := b4.cell 0 rfl;have m1 := b4.cell 1 rfl;go_wp2_with fail;refine (HCN.out W hB (hg.below hB)).mono ?_;rintro e w1 ⟨_, rfl, hrc, hb1⟩;have hB1 := hB.trans (hb1.mono hB.size);have b71 := b7.below hb1 b7.lt;have b41 := b4.below hb1 b4.lt;obtain ⟨pc, cc, rfl, -, -, hcc⟩ := hrc.open;obtain ⟨bc, oc, rfl, hbc, hcel⟩ := hcc (by simp [strP]);have HCC : Hid (∀ i : Nat, i < 3 -> w1.cell? ⟨bc, oc + i * 2, none⟩ = some (.string (RS (A i).1)) /\ w1.cell? ⟨bc, oc + i * 2 + 1, none⟩ = some (.string (RS (A i).2))) := fun i hi => by
  rcases (by omega : i = 0 \/ i = 1 \/ i = 2) with rfl | rfl | rfl
  ·exact hcel 0 (by simp [strP])
  ·exact hcel 1 (by simp [strP])
  ·exact hcel 2 (by simp [strP])
 rw [show (strP [A 0, A 1, A 2]).length = 3 from rfl];have HJ : Hid (∀ i : Nat, i < 3 -> ∃ jb jc : Nat, jb < 3 /\ jc < 3 /\ jb = (i + 1) % 3 /\ jc = (i + 2) % 3 /\ ((i : Int) + 1).tmod 3 = (jb : Int) /\ ((i : Int) + 2).tmod 3 = (jc : Int)) := fun i hi => by
  rcases (by omega : i = 0 \/ i = 1 \/ i = 2) with rfl | rfl | rfl
  ·exact ⟨1, 2, by omega, by omega, rfl, rfl, by decide, by decide⟩
  ·exact ⟨2, 0, by omega, by omega, rfl, rfl, by decide, by decide⟩
  ·exact ⟨0, 1, by omega, by omega, rfl, rfl, by decide, by decide⟩
 clear hb1 hB b7 b4 m0 m1 hrc hcc hcel HCN;go_wp2_with fail;go_loopw [10, 11] (fun t10 t11 wr => ∃ i : Nat, t11 = .int .i64 i /\ i <= 3 /\ t10 = .string (RS (LT i)) /\ Below w1.heap.size w1 wr) (fun _ t11 _ => 3 - (RowKit.intOf t11).toNat)
 case atStart => exact ⟨0, rfl, Nat.zero_le _, by rw [hto0, RS_zero], Below.refl _ _⟩
 case round =>
  obtain ⟨i, rfl, hi, rfl, hbr⟩ := hrel;have hBr := hB1.trans (hbr.mono hB1.size);have hbcr : bc < wr.heap.size := Nat.lt_of_lt_of_le hbc hbr.size;rcases Nat.lt_or_ge i 3 with h3 | h3
  ·have hiz : (i : Int) < 3 := by omega
   obtain ⟨jb, jc, hjb, hjc, ejb, ejc, hr1, hr2⟩ := HJ.out i h3;obtain ⟨q, bf, of, cf, hqF, rfl, hbf, ct0, cf0⟩ := HFT.out i h3;have HS1 := hid (HTO.out i);rw [<- ejb, <- ejc] at HS1;have HA1 := hid fun w hg => HAR.out jb jc w hg;have HM1 := hid fun w hg => HMU.out i w hg;have HD1 := hid fun w hg => HAD.out i h3 w hg;rw [<- ejb, <- ejc] at HM1 HD1;have x0 := zcq hbr hbc (HCC.out jb hjb).1;have x1 := zcq hbr hbc (HCC.out jb hjb).2;have x2 := zcq hbr hbc (HCC.out jc hjc).1;have x3 := zcq hbr hbc (HCC.out jc hjc).2;have b7r := b71.below hbr b71.lt;have b4r := b41.below hbr b41.lt;have y0 := b7r.cell 0 rfl;have y1 := b7r.cell 1 rfl;have hl7 := b7r.lt;have hgd : Good wr.drew := (hg.below hBr).drewN 1;have hw1 : IntKind.i64.wrap ((i : Int) + 1) = (i : Int) + 1 := IntWalk.i64_in _ (by omega);have hw2 : IntKind.i64.wrap ((i : Int) + 2) = (i : Int) + 2 := IntWalk.i64_in _ (by omega);have hw3 : IntKind.i64.wrap (jb : Int) = (jb : Int) := IntWalk.i64_in _ (by omega);have hw4 : IntKind.i64.wrap (jc : Int) = (jc : Int) := IntWalk.i64_in _ (by omega);have hjbz : (jb : Int) < 3 := by omega
   have hjcz : (jc : Int) < 3 := by omega
   generalize areaQ p (A jb) (A jc) = ar at *;generalize A jb = pb at *;generalize A jc = pd at *;clear ejb ejc;go_wp2_with fail;go_region_held3 (fun w' => w'.cell? ⟨w.heap.size + 1, 0, none⟩ = some (.string (RS p.1)) /\ w'.cell? ⟨w.heap.size + 1, 1, none⟩ = some (.string (RS p.2)) /\ w'.cell? ⟨bc, oc + jb * 2, none⟩ = some (.string (RS pb.1)) /\ w'.cell? ⟨bc, oc + jb * 2 + 1, none⟩ = some (.string (RS pb.2)) /\ w'.cell? ⟨bc, oc + jc * 2, none⟩ = some (.string (RS pd.1)) /\ w'.cell? ⟨bc, oc + jc * 2 + 1, none⟩ = some (.string (RS pd.2)))
    (first | exact ⟨y0, y1, x0, x1, x2, x3⟩ | exact ⟨p_1_0, p_1_1, p_1_2, p_1_3, p_1_4, p_1_5⟩)
    (first
    | (go_at_call 25; refine (HA1.out _ hgd).mono ?_; rintro e pw1 ⟨_, rfl, rfl, pb1⟩
       have p_1_0 := zct pb1 y0;have p_1_1 := zct pb1 y1;have p_1_2 := zct pb1 x0;have p_1_3 := zct pb1 x1;have p_1_4 := zct pb1 x2;have p_1_5 := zct pb1 x3;have ps1 : wr.heap.size <= pw1.heap.size := pb1.size;have pg1 := hgd.below pb1))
   have pB : Below wr.heap.size wr pw1 := zbt (bdN wr 1) pb1;have hbq := hbr.trans (pB.mono hbr.size);have hBq := hBr.trans (pB.mono hBr.size);have b4q := b4r.below pB b4r.lt;have m1 := b4q.cell 1 rfl;have c0 := zcq hBq hbt ct0;have c1 := zcq hBq hbf cf0;have hqz : (q : Int) < (F.length : Int) := by omega
   clear x0 x1 x2 x3 y0 y1 b7r b4r hw1 hw2 hw3 hw4 hr1 hr2 hgd HA1;go_wp2_with fail;refine (HM1.out _ (hg.below hBq)).mono ?_;rintro e w3 ⟨_, rfl, rfl, hb3⟩;have hbq3 := hbq.trans (hb3.mono hbq.size);have hBq3 := hBq.trans (hb3.mono hBq.size);clear m1 c0 c1 hb3;go_wp2_with fail;refine (HD1.out _ (hg.below hBq3)).mono ?_;rintro e w4 ⟨_, rfl, rfl, hb4⟩;have hbq4 := hbq3.trans (hb4.mono hbq3.size);go_wp2_with fail;go_roundw
   case rel => exact ⟨i + 1, by go_num, by omega, by rw [HS1.out], hbq4⟩
   case measure => simp [RowKit.intOf]; omega
  ·have hin : ¬ (i : Int) < 3 := by omega
   have HI : Hid (i = 3) := by unfold Hid; omega
   rw [HI.out];have x0 := (hbr.cell (p := ⟨bc, oc + 0 * 2, none⟩) hbc).trans (HCC.out 0 (by omega)).1;have x1 := (hbr.cell (p := ⟨bc, oc + 0 * 2 + 1, none⟩) hbc).trans (HCC.out 0 (by omega)).2;have x2 := (hbr.cell (p := ⟨bc, oc + 1 * 2, none⟩) hbc).trans (HCC.out 1 (by omega)).1;have x3 := (hbr.cell (p := ⟨bc, oc + 1 * 2 + 1, none⟩) hbc).trans (HCC.out 1 (by omega)).2;have x4 := (hbr.cell (p := ⟨bc, oc + 2 * 2, none⟩) hbc).trans (HCC.out 2 (by omega)).1;have x5 := (hbr.cell (p := ⟨bc, oc + 2 * 2 + 1, none⟩) hbc).trans (HCC.out 2 (by omega)).2;simp only [Nat.zero_mul, Nat.one_mul, Nat.reduceMul, Nat.add_zero, Nat.add_assoc, Nat.reduceAdd] at x0 x1 x2 x3 x4 x5;have hgd : Good wr.drew := (hg.below hBr).drewN 1;obtain ⟨ar, har⟩ : ∃ a, a = areaQ (A 0) (A 1) (A 2) := ⟨_, rfl⟩;rw [<- har] at HA2 HDV;have HAE := hid har;clear hi h3 har;go_wp2_with fail;go_region_held3 (fun w' => w'.cell? ⟨bc, oc, none⟩ = some (.string (RS (A 0).1)) /\ w'.cell? ⟨bc, oc + 1, none⟩ = some (.string (RS (A 0).2)) /\ w'.cell? ⟨bc, oc + 2, none⟩ = some (.string (RS (A 1).1)) /\ w'.cell? ⟨bc, oc + 3, none⟩ = some (.string (RS (A 1).2)) /\ w'.cell? ⟨bc, oc + 4, none⟩ = some (.string (RS (A 2).1)) /\ w'.cell? ⟨bc, oc + 5, none⟩ = some (.string (RS (A 2).2)))
    (first | exact ⟨x0, x1, x2, x3, x4, x5⟩ | exact ⟨p_1_0, p_1_1, p_1_2, p_1_3, p_1_4, p_1_5⟩ | exact ⟨p_2_0, p_2_1, p_2_2, p_2_3, p_2_4, p_2_5⟩)
    (first
    | (go_at_call 86; refine (HDV.out _ pg1).mono ?_; rintro e pw2 ⟨_, rfl, rfl, pb2⟩
       have p_2_0 := zct pb2 p_1_0;have p_2_1 := zct pb2 p_1_1;have p_2_2 := zct pb2 p_1_2;have p_2_3 := zct pb2 p_1_3;have p_2_4 := zct pb2 p_1_4;have p_2_5 := zct pb2 p_1_5;have ps2 := pb2.size;have pg2 := pg1.below pb2)
    | (go_at_call 25; refine (HA2.out _ hgd).mono ?_; rintro e pw1 ⟨_, rfl, rfl, pb1⟩
       have p_1_0 := zct pb1 x0;have p_1_1 := zct pb1 x1;have p_1_2 := zct pb1 x2;have p_1_3 := zct pb1 x3;have p_1_4 := zct pb1 x4;have p_1_5 := zct pb1 x5;have ps1 : wr.heap.size <= pw1.heap.size := pb1.size;have pg1 := hgd.below pb1))
   have pB : Below wr.heap.size wr pw2 := zbt (zbt (bdN wr 1) pb1) pb2;go_wp2_with fail;go_ret;exact ⟨_, rfl, (by rw [HAE.out]; exact rfl), hBr.trans (pB.mono hBr.size)⟩
theorem bool_ret {x y : Bool} (h : y = x) : Value.bool x = Value.bool y := by rw [h]
theorem rightRQ_any (s : ByteArray) (hs : s.size < 1000000000) (w : World) (hg : Good w) :
 Calls Tryz.prog 18 #[.string s] w (Ret (fun v _ => v = .bool (rQQ s.data.toList)) w) := by
 obtain ⟨l, hl⟩ : ∃ l, l = s.data.toList := ⟨_, rfl⟩;obtain ⟨A, hA⟩ : ∃ A, A = fst47 l := ⟨_, rfl⟩;obtain ⟨D, hD⟩ : ∃ D, D = snd47 l := ⟨_, rfl⟩;have HQ : Hid (rQQ l = (rII A && (decide (indexByte l 47 < 0) || (rII D && fitB (valI A) (valI D))))) := by unfold Hid rQQ; rw [hA, hD]
 have HD1 : Hid (indexByte l 47 < 0 -> rII D = true) := fun h => by rw [hD]; unfold snd47; rw [if_neg (by omega)]; decide +kernel
 have HP := hid (partsR_any s (by omega) w);rw [<- hl, <- hA, <- hD] at HP;have HIX : Hid (∀ w, _) := fun w => indexSlash_any s w;rw [<- hl] at HIX;have hsl : l.length = s.size := by rw [hl, Array.length_toList]; rfl
 have hsA : (BS A).size <= 1000000000000 := by
  rw [Bse, hA]; unfold fst47; split
  ·rw [List.length_take]; omega
  ·omega
 have hsD : (BS D).size <= 1000000000000 := by
  rw [Bse, hD]; unfold snd47; split
  ·rw [List.length_drop]; omega
  ·simp
 have HRA : Hid (∀ w, _) := fun w => rightR_any (BS A) hsA w;have HRD : Hid (∀ w, _) := fun w => rightR_any (BS D) hsD w;rw [Blt] at HRA HRD;rw [<- hl];obtain ⟨iz, hiz⟩ : ∃ iz, iz = indexByte l 47 := ⟨_, rfl⟩;rw [<- hiz] at HQ HIX HD1;clear hl hA hD hsA hsD hsl hiz;go_enter Tryz.func18, Tryz.ntmps18;go_wp2_with fail;refine (HP.out.mono fun _ _ h => h.ret).mono ?_;rintro e w1 ⟨_, rfl, rfl, hb1⟩;go_wp2_with fail;refine ((HRA.out w1).mono fun _ _ h => h.ret).mono ?_;rintro e w2 ⟨_, rfl, rfl, hb2⟩;have hB2 := hb1.trans (hb2.mono hb1.size);clear hb1 hb2;rcases Bool.eq_false_or_eq_true (rII A) with hra | hra
 ·rw [hra]
  go_wp2_with fail;refine ((HRD.out w2).mono fun _ _ h => h.ret).mono ?_;rintro e w3 ⟨_, rfl, rfl, hb3⟩;have hB3 := hB2.trans (hb3.mono hB2.size);clear hB2 hb3;rcases Bool.eq_false_or_eq_true (rII D) with hrd | hrd
  ·rw [hrd]
   have HQ2 : Hid (rQQ l = (decide (iz < 0) || fitB (valI A) (valI D))) := by unfold Hid; rw [HQ.out, hra, hrd]; rfl
   obtain ⟨a, ha⟩ : ∃ a, a = valI A := ⟨_, rfl⟩;obtain ⟨b, hb⟩ : ∃ b, b = valI D := ⟨_, rfl⟩;obtain ⟨ha1, ha2⟩ := rIv hra;obtain ⟨hb2, hb3⟩ := rIv hrd;rw [<- ha, <- hb] at HQ2;have eA : BS A = IS a := by rw [ha1, ha]; rfl
   have eD : BS D = IS b := by rw [hb2, hb]; rfl
   rw [eA] at ha2 ⊢;rw [eD] at hb3 ⊢;clear ha hb ha1 hb2 eA eD hra hrd HP HQ HRA HRD HD1;by_cases hsl : iz < 0
   ·have HF : Hid (rQQ l = true) := by unfold Hid; rw [HQ2.out, decide_eq_true hsl]; rfl
    go_wp2_with fail;refine (HIX.out w3).mono ?_;rintro e w4 ⟨_, rfl, rfl, rfl⟩;go_wp2_with fail;go_ret;exact ⟨_, rfl, bool_ret HF.out, hB3⟩
   ·have HQ3 : Hid (rQQ l = fitB a b) := by unfold Hid; rw [HQ2.out, decide_eq_false hsl]; rfl
    have HCMP : Hid (∀ w, Good w -> Calls Tryz.prog 61 #[.string (IS b), .string ⟨#[49]⟩] w (Ret (fun v _ => v = .int .i64 (cmpZ b 1)) w)) := fun w hg => by
     have h := compareR_any b 1 (by omega) (by rw [IS_one]; decide) w hg;rw [IS_one] at h; exact h
    have HGC := hid fun w hg => gcdR_any a b (by omega) (by omega) w hg
    have HZ : Hid (1 < b -> cmpZ b 1 = 1) := fun h => cmpZ_gt h;obtain ⟨g, hgg⟩ : ∃ g : Int, g = (Int.gcd a b : Nat) := ⟨_, rfl⟩;rw [<- hgg] at HGC;have h8 := IS_eq48 a;have h9 := IS_eq49 g;have HGG := hid hgg;clear hgg;go_wp2_with fail;refine (HIX.out w3).mono ?_;rintro e w4 ⟨_, rfl, rfl, rfl⟩;go_wp2_with fail;refine (HCMP.out w3 (hg.below hB3)).mono ?_;rintro e w4 ⟨_, rfl, rfl, hb4⟩;have hB4 := hB3.trans (hb4.mono hB3.size);clear hB3 hb4;by_cases hb1 : 1 < b
    ·rw [HZ.out hb1]
     by_cases ha0 : a = 0
     ·have HF : Hid (rQQ l = false) := by unfold Hid; rw [HQ3.out]; unfold fitB; rw [decide_eq_true ha0]; simp
      rw [decide_eq_true ha0] at h8;have h8' : ((IS a).toList != [48]) = false := by rw [bne, h8]; rfl
      clear ha0 hb1;go_wp2_with fail;go_ret;exact ⟨_, rfl, bool_ret HF.out, hB4⟩
     ·rw [decide_eq_false ha0] at h8
      have h8' : ((IS a).toList != [48]) = true := by rw [bne, h8]; rfl
      have HF : Hid (rQQ l = decide (g = 1)) := by
       unfold Hid; rw [HQ3.out]; unfold fitB; rw [decide_eq_true hb1, decide_eq_false ha0, HGG.out];show decide (Int.gcd a b = 1) = _;rw [Bool.eq_iff_iff, decide_eq_true_iff, decide_eq_true_iff]; omega
      clear ha0 hb1;generalize decide (g = 1) = dd at *;go_wp2_with fail;refine (HGC.out w4 (hg.below hB4)).mono ?_;rintro e w5 ⟨_, rfl, rfl, hb5⟩;have hB5 := hB4.trans (hb5.mono hB4.size);go_wp2_with fail;go_ret;exact ⟨_, rfl, bool_ret HF.out, hB5⟩
    ·have HZ : ∃ z, z <= 0 /\ Hid (cmpZ b 1 = z) := ⟨cmpZ b 1, by unfold cmpZ; rw [if_neg hb1]; split <;> omega, rfl⟩
     obtain ⟨z, hz, HZ⟩ := HZ;have HF : Hid (rQQ l = false) := by unfold Hid; rw [HQ3.out]; unfold fitB; rw [decide_eq_false hb1]; rfl
     rw [HZ.out];clear hb1;go_wp2_with fail;go_ret;exact ⟨_, rfl, bool_ret HF.out, hB4⟩
  ·have HF : Hid (rQQ l = false) := by
    unfold Hid;rw [HQ.out, hra, hrd];by_cases h : iz < 0
    ·have := HD1.out h; rw [hrd] at this; cases this
    ·rw [decide_eq_false h]; rfl
   rw [hrd];go_wp2_with fail;go_ret;exact ⟨_, rfl, bool_ret HF.out, hB3⟩
 ·have HF : Hid (rQQ l = false) := by unfold Hid; rw [HQ.out, hra]; rfl
  rw [hra];go_wp2_with fail;go_ret;exact ⟨_, rfl, bool_ret HF.out, hB2⟩
theorem rightPoint_any (x y : ByteArray) (hx : x.size < 1000000000) (hy : y.size < 1000000000) (w : World) (hg : Good w) :
 Calls Tryz.prog 10 #[.agg #[.string x, .string y]] w (Ret (fun r _ => r = .bool (allQ [x, y])) w) := by
 have HX := hid fun w hg => rightRQ_any x hx w hg;have HY := hid fun w hg => rightRQ_any y hy w hg;have HQ : Hid (allQ [x, y] = (rQQ x.data.toList && rQQ y.data.toList)) := by unfold Hid allQ; simp
 rw [HQ.out];clear HQ;generalize rQQ x.data.toList = bx at *;generalize rQQ y.data.toList = bY at *;go_enter Tryz.func10, Tryz.ntmps10;go_upto_region 1 with fail;obtain ⟨W, hW⟩ : ∃ W, W = w.alloc (.cells #[.string x, .string y] 33) := ⟨_, rfl⟩;have hB : Below w.heap.size w W := by rw [hW]; exact zal _ _
 have b1 : BoxN W w.heap.size 33 [.string x, .string y] := by rw [hW]; exact BoxN.new _ _ _ _ rfl
 rw [<- hW];clear hW;have m0 := b1.cell 0 rfl;go_wp2_with fail;refine (HX.out W (hg.below hB)).mono ?_;rintro e w1 ⟨_, rfl, rfl, hb1⟩;have hB1 := hB.trans (hb1.mono hB.size);have b2 := b1.below hb1 b1.lt;have m1 := b2.cell 1 rfl;clear m0;cases bx
 ·go_wp2_with fail
  go_ret;exact ⟨_, rfl, rfl, hB1⟩
 ·go_wp2_with fail
  refine (HY.out w1 (hg.below hB1)).mono ?_;rintro e w2 ⟨_, rfl, rfl, hb2⟩;go_wp2_with fail;go_ret;exact ⟨_, rfl, by simp, hB1.trans (hb2.mono hB1.size)⟩
theorem turn05_any (a b c : PtQ) (k : Nat) (hk : 0 < k) (hk2 : k <= 1000) (ha : SzP k a) (hb : SzP k b) (hc : SzP k c) (w : World) (hg : Good w) :
 Calls Tryz.prog 85 #[.agg #[.string (RS a.1), .string (RS a.2)], .agg #[.string (RS b.1), .string (RS b.2)], .agg #[.string (RS c.1), .string (RS c.2)]] w (Ret (fun r _ => r = .int .i64 (turnZ a b c)) w) := by
 obtain ⟨W, hW, ⟨a0, a1⟩, ⟨b0, b1⟩, ⟨c0, c1⟩, hbW, hsz⟩ := three_boxes w a b c 33;have hgW := hg.below hbW;have HA := hid ha;have HB := hid hb;have HC := hid hc;have HW := hid hW;have HT : Hid ((areaQ a b c).num.sign = turnZ a b c) := rfl;clear hW ha hb hc;have HAR : Hid (Calls Tryz.prog 25 #[.agg #[.string (RS a.1), .string (RS a.2)], .agg #[.string (RS b.1), .string (RS b.2)], .agg #[.string (RS c.1), .string (RS c.2)]] W (Ret (fun r _ => r = .string (RS (areaQ a b c))) W)) := area05_any a b c k hk hk2 HA.out HB.out HC.out W hgW;obtain ⟨ax, ay⟩ := a;obtain ⟨bx, bY⟩ := b;obtain ⟨cx, cy⟩ := c;dsimp only at *;go_enter Tryz.func85, Tryz.ntmps85;go_upto_region 1 with fail;rw [<- HW.out];go_wp2_with fail;refine HAR.out.mono ?_;rintro e w1 ⟨_, rfl, rfl, hb1⟩;go_wp2_with fail;refine ((signQ_any _ _).mono fun _ _ h => h.ret).mono ?_;rintro e w2 ⟨_, rfl, rfl, hb2⟩;rw [HT.out];go_wp2_with fail;go_ret;exact ⟨_, rfl, rfl, (hbW.trans (hb1.mono hbW.size)).trans (hb2.mono (by have := hbW.size; have := hb1.size; omega))⟩
def tri3 (a b c : PtQ) : Nat -> PtQ | 0 => a | 1 => b | _ => c
theorem whTo_step (a b c p : PtQ) (i : Nat) (hi : i < 3) : whTo a b c p (i + 1) = min (whTo a b c p i) (turnZ (tri3 a b c i) (tri3 a b c ((i + 1) % 3)) p) := by
 rcases (by omega : i = 0 \/ i = 1 \/ i = 2) with rfl | rfl | rfl <;> rfl
theorem where_any (w : World) (v : Value) (a b c p : PtQ) (k : Nat) (hk : 0 < k) (hk2 : k <= 1000) (ha : SzP k a) (hb : SzP k b) (hc : SzP k c) (hp : SzP k p) (hv : RdP w v (strP [a, b, c])) (hg : Good w) :
 Calls Tryz.prog 38 #[v, .agg #[.string (RS p.1), .string (RS p.2)]] w (Ret (fun r _ => r = .int .i64 (whTo a b c p 3)) w) := by
 have zA : ∀ i, SzP k (tri3 a b c i) := fun i => by unfold tri3; split <;> assumption
 have HTN : Hid (∀ (i j : Nat) (w : World), Good w -> _) := fun i j w hg => turn05_any (tri3 a b c i) (tri3 a b c j) p k hk hk2 (zA i) (zA j) hp w hg;have HST : Hid (∀ i, i < 3 -> whTo a b c p (i + 1) = min (whTo a b c p i) (turnZ (tri3 a b c i) (tri3 a b c ((i + 1) % 3)) p)) := fun i hi => whTo_step a b c p i hi;have h0 : whTo a b c p 0 = 1 := rfl;obtain ⟨pc, cc, rfl, -, -, hcc⟩ := hv.open;obtain ⟨bc, oc, rfl, hbc, hcel⟩ := hcc (by simp [strP]);have HCC : Hid (∀ i : Nat, i < 3 -> w.cell? ⟨bc, oc + i * 2, none⟩ = some (.string (RS (tri3 a b c i).1)) /\ w.cell? ⟨bc, oc + i * 2 + 1, none⟩ = some (.string (RS (tri3 a b c i).2))) := fun i hi => by
  rcases (by omega : i = 0 \/ i = 1 \/ i = 2) with rfl | rfl | rfl
  ·exact hcel 0 (by simp [strP])
  ·exact hcel 1 (by simp [strP])
  ·exact hcel 2 (by simp [strP])
 rw [show (strP [a, b, c]).length = 3 from rfl];have HJ : Hid (∀ i : Nat, i < 3 -> ∃ jb : Nat, jb < 3 /\ jb = (i + 1) % 3 /\ ((i : Int) + 1).tmod 3 = (jb : Int)) := fun i hi => by
  rcases (by omega : i = 0 \/ i = 1 \/ i = 2) with rfl | rfl | rfl
  ·exact ⟨1, by omega, rfl, by decide⟩
  ·exact ⟨2, by omega, rfl, by decide⟩
  ·exact ⟨0, by omega, rfl, by decide⟩
 clear hv hcc hcel zA ha hb hc hp;generalize whTo a b c p = WH at *;generalize tri3 a b c = A at *;go_enter Tryz.func38, Tryz.ntmps38;go_upto_region 1 with fail;obtain ⟨W, hW⟩ : ∃ W, W = w.alloc (.cells #[.string (RS p.1), .string (RS p.2)] 33) := ⟨_, rfl⟩;have hB : Below w.heap.size w W := by rw [hW]; exact zal _ _
 have b3 : BoxN W w.heap.size 33 [.string (RS p.1), .string (RS p.2)] := by rw [hW]; exact BoxN.new _ _ _ _ rfl
 rw [<- hW];clear hW;go_wp2_with fail;go_loopw [5, 6] (fun t5 t6 wr => ∃ i : Nat, t6 = .int .i64 i /\ i <= 3 /\ t5 = .int .i64 (WH i) /\ Below W.heap.size W wr) (fun _ t6 _ => 3 - (RowKit.intOf t6).toNat)
 case atStart => exact ⟨0, rfl, Nat.zero_le _, by rw [h0], Below.refl _ _⟩
 case round =>
  obtain ⟨i, rfl, hi, rfl, hbr⟩ := hrel;have hBr := hB.trans (hbr.mono hB.size);rcases Nat.lt_or_ge i 3 with h3 | h3
  ·have hiz : (i : Int) < 3 := by omega
   obtain ⟨jb, hjb, ejb, hr1⟩ := HJ.out i h3;have HS1 := hid (HST.out i h3);rw [<- ejb] at HS1;have HT1 := hid fun w hg => HTN.out i jb w hg;have x0 := zcq hBr hbc (HCC.out i h3).1;have x1 := zcq hBr hbc (HCC.out i h3).2;have x2 := zcq hBr hbc (HCC.out jb hjb).1;have x3 := zcq hBr hbc (HCC.out jb hjb).2;have b3r := b3.below hbr b3.lt;have y0 := b3r.cell 0 rfl;have y1 := b3r.cell 1 rfl;have l3 := b3r.lt;have hbcr : bc < wr.heap.size := Nat.lt_of_lt_of_le hbc hBr.size;have hgd : Good wr.drew := (hg.below hBr).drewN 1;have hw1 : IntKind.i64.wrap ((i : Int) + 1) = (i : Int) + 1 := IntWalk.i64_in _ (by omega);have hw3 : IntKind.i64.wrap (jb : Int) = (jb : Int) := IntWalk.i64_in _ (by omega);have hjbz : (jb : Int) < 3 := by omega
   generalize turnZ (A i) (A jb) p = z at *;generalize A jb = pb at *;generalize A i = pa at *;clear ejb;go_wp2_with fail;go_region_held3 (fun w' => w'.cell? ⟨w.heap.size, 0, none⟩ = some (.string (RS p.1)) /\ w'.cell? ⟨w.heap.size, 1, none⟩ = some (.string (RS p.2)) /\ w'.cell? ⟨bc, oc + i * 2, none⟩ = some (.string (RS pa.1)) /\ w'.cell? ⟨bc, oc + i * 2 + 1, none⟩ = some (.string (RS pa.2)) /\ w'.cell? ⟨bc, oc + jb * 2, none⟩ = some (.string (RS pb.1)) /\ w'.cell? ⟨bc, oc + jb * 2 + 1, none⟩ = some (.string (RS pb.2)))
    (first | exact ⟨y0, y1, x0, x1, x2, x3⟩ | exact ⟨p_1_0, p_1_1, p_1_2, p_1_3, p_1_4, p_1_5⟩)
    (first
    | (go_at_call 85; refine (HT1.out _ hgd).mono ?_; rintro e pw1 ⟨_, rfl, rfl, pb1⟩
       have p_1_0 := zct pb1 y0;have p_1_1 := zct pb1 y1;have p_1_2 := zct pb1 x0;have p_1_3 := zct pb1 x1;have p_1_4 := zct pb1 x2;have p_1_5 := zct pb1 x3;have ps1 : wr.heap.size <= pw1.heap.size := pb1.size;have pg1 := hgd.below pb1))
   have pB : Below wr.heap.size wr pw1 := zbt (bdN wr 1) pb1;have hbq := hbr.trans (pB.mono hbr.size);go_wp2_with fail;go_roundw
   case rel => exact ⟨i + 1, by go_num, by omega, by rw [HS1.out], hbq⟩
   case measure => simp [RowKit.intOf]; omega
  ·obtain rfl : i = 3 := by omega
   go_wp2_with fail;go_ret;exact ⟨_, rfl, rfl, hBr⟩
theorem at13_gen (w : World) (vp vt vf : Value) (P : List PtQ) (T : List Tri) (F : List Rat) (h : FieldIn w vp vt vf P T 2 F) (p : PtQ) (m : Nat) (hm2 : 2 <= m) (hm7 : m <= 700) (hp : SzP m p) (hg : Good w) :
 Calls Tryz.prog 11 #[.agg #[vp, vt], vf, .agg #[.string (RS p.1), .string (RS p.2)]] w (Ret (fun r _ => (locN P T p T.length = [] /\ r = .tuple #[.string ⟨#[]⟩, .bool false]) \/ ∃ (t : Nat) (ht : t < T.length) (l : List Int), locN P T p T.length = (t : Int) :: l /\ r = .tuple #[.string (RS (onQ P F T[t] p)), .bool true]) w) := by
 have HF := hid h;have HCN : Hid (∀ (i : Nat) (hi : i < T.length) (w' : World), Below w.heap.size w w' -> Good w' -> Calls Tryz.prog 23 #[.agg #[vp, vt], .int .i64 (i : Int)] w' (Ret (fun r w' => RdP w' r (strP [ptI P T[i].1, ptI P T[i].2.1, ptI P T[i].2.2])) w')) := fun i hi w' hb hg => lcorn13_any w' vp vt P T 2 (RdC.below h.p hb) (RdC.below h.t hb) h.m.toMeshIn i hi _ rfl hg;have hsP : ∀ z : Int, SzP m (ptI P z) := fun z => by
  have hs : ∀ p ∈ P, SzP m p := fun p hp => ⟨(h.m.sz p hp).1.mono (by omega), (h.m.sz p hp).2.mono (by omega)⟩
  exact ptF_sz hs (by omega) _
 have HWH : Hid (∀ (i : Nat) (hi : i < T.length) (w' : World) (v : Value), RdP w' v (strP [ptI P T[i].1, ptI P T[i].2.1, ptI P T[i].2.2]) -> Good w' -> Calls Tryz.prog 38 #[v, .agg #[.string (RS p.1), .string (RS p.2)]] w' (Ret (fun r _ => r = .int .i64 (whTo (ptI P T[i].1) (ptI P T[i].2.1) (ptI P T[i].2.2) p 3)) w')) := fun i hi w' v hv hg => where_any w' v _ _ _ p m (by omega) (by omega) (hsP _) (hsP _) (hsP _) hp hv hg
 have HIN : Hid (∀ (i : Nat) (hi : i < T.length), decide (0 <= whTo (ptI P T[i].1) (ptI P T[i].2.1) (ptI P T[i].2.2) p 3) = iTT P T p i) := fun i hi => by
  rw [whTo_in];unfold iTT;rw [List.getElem?_eq_getElem hi]
 have HON : Hid (∀ (i : Nat) (hi : i < T.length) (w' : World), FieldIn w' vp vt vf P T 2 F -> Good w' -> Calls Tryz.prog 39 #[.agg #[vp, vt], vf, .int .i64 (i : Int), .agg #[.string (RS p.1), .string (RS p.2)]] w' (Ret (fun r _ => r = .string (RS (onQ P F T[i] p))) w')) := fun i hi w' h hg => by
  have hmem : T[i] ∈ T := List.getElem_mem hi;have hAne : areaQ (ptI P T[i].1) (ptI P T[i].2.1) (ptI P T[i].2.2) ≠ 0 := by have := areaQ_pos h.m hmem; intro e; rw [e] at this; exact absurd this (by decide)
  have := lon13_any w' vp vt vf P T 2 F h i hi _ rfl p m (by omega) hp (by omega) hg;rw [lonT_eq hAne] at this;exact this
 have HN : Hid ((∀ i, i < T.length -> iTT P T p i = false) -> locN P T p T.length = []) := fun hh => locN_none hh;have HH : Hid (∀ i, i < T.length -> iTT P T p i = true -> (∀ j, j < i -> iTT P T p j = false) -> ∃ l, locN P T p T.length = (i : Int) :: l) := fun i h1 h2 h3 => locN_head h1 h2 h3;have htl := h.m.tlen;obtain ⟨pp, cp, pt, ct, pf, cf, rfl, rfl, rfl⟩ := h.open;clear h hsP hp;go_enter Tryz.func11, Tryz.ntmps11;go_upto_region 1 with fail;obtain ⟨W, hW⟩ : ∃ W, W = (w.alloc (.cells #[.slice pp P.length cp, .slice pt T.length ct] 38)).alloc (.cells #[.string (RS p.1), .string (RS p.2)] 33) := ⟨_, rfl⟩;have hB : Below w.heap.size w W := by rw [hW]; exact zal2 _ _ _
 have b5 : BoxN W (w.heap.size + 1) 33 [.string (RS p.1), .string (RS p.2)] := by rw [hW]; exact BoxN.new _ _ _ _ (by simp)
 have b3 : BoxN W w.heap.size 38 [.slice pp P.length cp, .slice pt T.length ct] := by
  rw [hW];have h1 := (BoxN.new w #[.slice pp P.length cp, .slice pt T.length ct] 38 _ rfl);exact h1.below (zal _ _) h1.lt
 rw [<- hW];clear hW;go_wp2_with fail;go_loopw [8] (fun t8 wr => ∃ i : Nat, t8 = .int .i64 i /\ i <= T.length /\ Hid (∀ j, j < i -> iTT P T p j = false) /\ Below W.heap.size W wr) (fun t8 _ => T.length - (RowKit.intOf t8).toNat)
 case atStart => exact ⟨0, rfl, Nat.zero_le _, (fun j h => by omega), Below.refl _ _⟩
 case round =>
  obtain ⟨i, rfl, hi, HJ, hbr⟩ := hrel;have hBr := hB.trans (hbr.mono hB.size);have c3 := b3.below hbr b3.lt;have c5 := b5.below hbr b5.lt;have m0 := c3.cell 0 rfl;have m1 := c3.cell 1 rfl;rcases Nat.lt_or_ge i T.length with hlt | hlt
  ·have hiz : (i : Int) < (T.length : Int) := by omega
   have y0 := c5.cell 0 rfl;have y1 := c5.cell 1 rfl;have l3 := c3.lt;have l5 := c5.lt;have HC1 : Hid (∀ (w' : World), Below w.heap.size w w' -> Good w' -> _) := fun w' hb hg => HCN.out i hlt w' hb hg;have HW1 : Hid (∀ (w' : World) (v : Value), _ -> Good w' -> _) := fun w' v hv hg => HWH.out i hlt w' v hv hg;have hin := HIN.out i hlt;generalize whTo (ptI P T[i].1) (ptI P T[i].2.1) (ptI P T[i].2.2) p 3 = z at *;have hgd : Good wr.drew := (hg.below hBr).drewN 1;have hB0 : Below w.heap.size w wr.drew := hBr.trans ((bdN wr 1).mono hBr.size);have hw1 : IntKind.i64.wrap ((i : Int) + 1) = (i : Int) + 1 := IntWalk.i64_in _ (by omega);go_wp2_with fail;go_region_held3 (fun w' => w'.cell? ⟨w.heap.size, 0, none⟩ = some (.slice pp P.length cp) /\ w'.cell? ⟨w.heap.size, 1, none⟩ = some (.slice pt T.length ct) /\ w'.cell? ⟨w.heap.size + 1, 0, none⟩ = some (.string (RS p.1)) /\ w'.cell? ⟨w.heap.size + 1, 1, none⟩ = some (.string (RS p.2)))
    (first | exact ⟨m0, m1, y0, y1⟩ | exact ⟨p_1_0, p_1_1, p_1_2, p_1_3⟩ | exact ⟨p_2_0, p_2_1, p_2_2, p_2_3⟩)
    (first
    | (go_at_call 38; refine (HW1.out _ _ HRC.out pg1).mono ?_; rintro e pw2 ⟨_, rfl, rfl, pb2⟩
       have p_2_0 := zct pb2 p_1_0;have p_2_1 := zct pb2 p_1_1;have p_2_2 := zct pb2 p_1_2;have p_2_3 := zct pb2 p_1_3;have ps2 := pb2.size;have pg2 := pg1.below pb2)
    | (go_at_call 23; refine (HC1.out _ hB0 hgd).mono ?_; rintro e pw1 ⟨vc, rfl, hrc, pb1⟩
       have p_1_0 := zct pb1 m0;have p_1_1 := zct pb1 m1;have p_1_2 := zct pb1 y0;have p_1_3 := zct pb1 y1;have ps1 : wr.heap.size <= pw1.heap.size := pb1.size;have pg1 := hgd.below pb1;have HRC := hid hrc))
   have pB : Below wr.heap.size wr pw2 := zbt (zbt (bdN wr 1) pb1) pb2;have hbq := hbr.trans (pB.mono hbr.size);have hBq := hBr.trans (pB.mono hBr.size);cases hc : iTT P T p i
   ·rw [hc] at hin
    have HJN : Hid (∀ j, j < i + 1 -> iTT P T p j = false) := fun j hj => by
     rcases (by omega : j = i \/ j < i) with rfl | h1
     ·exact hc
     ·exact HJ.out j h1
    clear hc;go_wp2_with fail;go_roundw
    case rel => exact ⟨i + 1, by go_num, by omega, HJN, hbq⟩
    case measure => simp [RowKit.intOf]; omega
   ·rw [hc] at hin
    obtain ⟨l, hl⟩ := HH.out i hlt hc HJ.out;have HL := hid hl;have d3 := c3.below pB c3.lt;have d5 := c5.below pB c5.lt;have n0 := d3.cell 0 rfl;have n1 := d3.cell 1 rfl;have v0 := d5.cell 0 rfl;have v1 := d5.cell 1 rfl;have HO := hid (HON.out i hlt _ (HF.out.below hBq) (hg.below hBq));clear hc hl m0 m1 y0 y1;go_wp2_with fail;refine HO.out.mono ?_;rintro e w2 ⟨_, rfl, rfl, hb2⟩;go_wp2_with fail;go_ret2;exact ⟨_, rfl, .inr ⟨i, hlt, l, HL.out, rfl⟩, hBq.trans (hb2.mono hBq.size)⟩
  ·have HLN := hid (HN.out (fun j hj => HJ.out j (by omega)))
   have hiz : (T.length : Int) <= (i : Int) := by omega
   go_wp2_with fail;go_ret2;exact ⟨_, rfl, .inl ⟨HLN.out, rfl⟩, hBr⟩
theorem at13_any (w : World) (vp vt vf : Value) (P : List PtQ) (T : List Tri) (F : List Rat) (h : FieldIn w vp vt vf P T 2 F) (p : PtQ) (hp : SzP 40 p) (hg : Good w) :
 Calls Tryz.prog 11 #[.agg #[vp, vt], vf, .agg #[.string (RS p.1), .string (RS p.2)]] w (Ret (fun r _ => (locN P T p T.length = [] /\ r = .tuple #[.string ⟨#[]⟩, .bool false]) \/ ∃ (t : Nat) (ht : t < T.length) (l : List Int), locN P T p T.length = (t : Int) :: l /\ r = .tuple #[.string (RS (onQ P F T[t] p)), .bool true]) w) :=
 at13_gen w vp vt vf P T F h p 40 (by omega) (by omega) hp hg
def CapP (A x y w V : Rat) : Prop := (y < 0 \/ w < 0) /\ 0 < x /\ y <= 0 /\ w <= 0 /\ ∃ r s : Rat, r * (x - y) = x /\ s * (x - w) = x /\ 6 * V = A * (x * r * s)
def NotP (A x y w V : Rat) : Prop := (0 < y \/ 0 < w) /\ x < 0 /\ 0 <= y /\ 0 <= w /\ ∃ r s : Rat, r * (x - y) = x /\ s * (x - w) = x /\ 6 * V = A * (x + y + w) - A * (x * r * s)
def VolP (A x y w V : Rat) : Prop :=
 (x <= 0 /\ y <= 0 /\ w <= 0 /\ V = 0) \/ (0 <= x /\ 0 <= y /\ 0 <= w /\ 6 * V = A * (x + y + w)) \/ (CapP A x y w V \/ NotP A x y w V) \/ (CapP A y w x V \/ NotP A y w x V) \/ (CapP A w x y V \/ NotP A w x y V)
section
variable {A x y w V V' : Rat}
def TipP (A x y w V : Rat) : Prop := CapP A x y w V \/ NotP A x y w V
theorem TipP.sgn (h : TipP A x y w V) : ((y < 0 \/ w < 0) /\ 0 < x /\ y <= 0 /\ w <= 0) \/ ((0 < y \/ 0 < w) /\ x < 0 /\ 0 <= y /\ 0 <= w) := by
 rcases h with ⟨g0, g1, g2, g3, -⟩ | ⟨g0, g1, g2, g3, -⟩
 ·exact .inl ⟨g0, g1, g2, g3⟩
 ·exact .inr ⟨g0, g1, g2, g3⟩
end
end Go.Proofs.YtegiemcnfbchoaaGreatDoor
namespace Go.Proofs.YtegiemcnfbchoaaGreatDoor
open Go.RowKit Go.Lib
theorem MeshOK.up {P : List PtQ} {T : List Tri} {k m : Nat} (h : MeshOK P T k) (hkm : k <= m) (hm : m <= 200) : MeshOK P T m :=
 { kpos := by have := h.kpos; omega, klim := by omega, sz := fun p hp => ⟨(h.sz p hp).1.mono hkm, (h.sz p hp).2.mono hkm⟩, plen := h.plen, tlen := h.tlen, idx := h.idx, klim2 := hm, some := h.some, apart := h.apart, turns := h.turns, whole := h.whole }
theorem cancel_nat {x : Rat} {q : Nat} (hq : 0 < q) (h : x * (q : Rat) = 0) : x = 0 := by
 rcases Rat.mul_eq_zero.1 h with h | h
 ·exact h
 ·have : q = 0 := by exact_mod_cast h
  omega
structure TriI (A x y w : Rat) (a h0 h1 h2 p : Int) (q : Nat) : Prop where
 hq : 0 < q
 hA : A * 4 = (a : Rat)
 hx : x * (2 * (q : Rat)) = (h0 : Rat) * (q : Rat) - 2 * (p : Rat)
 hy : y * (2 * (q : Rat)) = (h1 : Rat) * (q : Rat) - 2 * (p : Rat)
 hw : w * (2 * (q : Rat)) = (h2 : Rat) * (q : Rat) - 2 * (p : Rat)
theorem TriI.turn {A x y w : Rat} {a h0 h1 h2 p : Int} {q : Nat} (h : TriI A x y w a h0 h1 h2 p q) : TriI A y w x a h1 h2 h0 p q := ⟨h.hq, h.hA, h.hy, h.hw, h.hx⟩
section
variable {A x y w V : Rat} {a h0 h1 h2 p : Int} {q : Nat}
theorem TriI.dif (h : TriI A x y w a h0 h1 h2 p q) : (x - y) * 2 = (h0 : Rat) - (h1 : Rat) /\ (x - w) * 2 = (h0 : Rat) - (h2 : Rat) := by
 have h1' := h.hx;have h2' := h.hy;have h3' := h.hw;constructor
 ·have := cancel_nat (x := (x - y) * 2 - ((h0 : Rat) - (h1 : Rat))) h.hq (by grind)
  grind
 ·have := cancel_nat (x := (x - w) * 2 - ((h0 : Rat) - (h2 : Rat))) h.hq (by grind)
  grind
theorem TriI.cap (h : TriI A x y w a h0 h1 h2 p q) {r s : Rat} (hr : r * (x - y) = x) (hs : s * (x - w) = x) (hV : 6 * V = A * (x * r * s)) :
 V * (48 * (q : Rat) * q * q * (((h0 - h1) * (h0 - h2) : Int) : Rat)) = ((a * ((h0 * q - 2 * p) * (h0 * q - 2 * p) * (h0 * q - 2 * p)) : Int) : Rat) := by
 obtain ⟨d1, d2⟩ := h.dif;have hx := h.hx;have hA := h.hA;have e1 : (((h0 - h1) * (h0 - h2) : Int) : Rat) = ((h0 : Rat) - (h1 : Rat)) * ((h0 : Rat) - (h2 : Rat)) := by rw [Rat.intCast_mul, Rat.intCast_sub, Rat.intCast_sub]
 have e2 : ((a * ((h0 * q - 2 * p) * (h0 * q - 2 * p) * (h0 * q - 2 * p)) : Int) : Rat) = (a : Rat) * (((h0 : Rat) * (q : Rat) - 2 * (p : Rat)) * ((h0 : Rat) * (q : Rat) - 2 * (p : Rat)) * ((h0 : Rat) * (q : Rat) - 2 * (p : Rat))) := by
  rw [Rat.intCast_mul, Rat.intCast_mul, Rat.intCast_mul, Rat.intCast_sub, Rat.intCast_mul, Rat.intCast_mul]; rfl
 rw [e1, e2, <- hx, <- hA, <- d1, <- d2];have r1 : r * ((x - y) * 2) = 2 * x := by grind
 have s1 : s * ((x - w) * 2) = 2 * x := by grind
 have g : V * (48 * (q : Rat) * q * q * ((x - y) * 2 * ((x - w) * 2))) = 8 * q * q * q * (6 * V) * ((x - y) * 2) * ((x - w) * 2) := by grind
 rw [g, hV];have g2 : 8 * (q : Rat) * q * q * (A * (x * r * s)) * ((x - y) * 2) * ((x - w) * 2) = 8 * q * q * q * A * x * (r * ((x - y) * 2)) * (s * ((x - w) * 2)) := by grind
 rw [g2, r1, s1];grind
theorem TriI.whole (h : TriI A x y w a h0 h1 h2 p q) (hV : 6 * V = A * (x + y + w)) :
 V * (48 * (q : Rat)) = ((a * ((h0 + h1 + h2) * q - 6 * p) : Int) : Rat) := by
 have hx := h.hx;have hy := h.hy;have hw := h.hw;have hA := h.hA;have e2 : ((a * ((h0 + h1 + h2) * q - 6 * p) : Int) : Rat) = (a : Rat) * (((h0 : Rat) + (h1 : Rat) + (h2 : Rat)) * (q : Rat) - 6 * (p : Rat)) := by
  rw [Rat.intCast_mul, Rat.intCast_sub, Rat.intCast_mul, Rat.intCast_mul, Rat.intCast_add, Rat.intCast_add]; rfl
 have g : V * (48 * (q : Rat)) = 8 * q * (6 * V) := by grind
 rw [e2, g, hV, <- hA];grind
theorem TriI.not (h : TriI A x y w a h0 h1 h2 p q) {r s : Rat} (hr : r * (x - y) = x) (hs : s * (x - w) = x) (hV : 6 * V = A * (x + y + w) - A * (x * r * s)) :
 V * (48 * (q : Rat) * q * q * (((h0 - h1) * (h0 - h2) : Int) : Rat)) = ((a * ((h0 + h1 + h2) * q - 6 * p) * (q * q * ((h0 - h1) * (h0 - h2))) - a * ((h0 * q - 2 * p) * (h0 * q - 2 * p) * (h0 * q - 2 * p)) : Int) : Rat) := by
 have c1 := h.cap (V := A * (x * r * s) / 6) hr hs (by grind);have c2 := h.whole (V := A * (x + y + w) / 6) (by grind);have e : V = A * (x + y + w) / 6 - A * (x * r * s) / 6 := by grind
 generalize a * ((h0 + h1 + h2) * q - 6 * p) = X at *;generalize (h0 - h1) * (h0 - h2) = D at *;rw [Rat.intCast_sub, <- c1, Rat.intCast_mul, <- c2, Rat.intCast_mul, Rat.intCast_mul, e];have e3 : (((q : Nat) : Int) : Rat) = (q : Rat) := rfl;rw [e3];generalize A * (x + y + w) / 6 = V1;generalize A * (x * r * s) / 6 = V2;grind
end
theorem natAbs3 (a b c : Int) {A B C : Nat} (h1 : a.natAbs <= A) (h2 : b.natAbs <= B) (h3 : c.natAbs <= C) : (a * b * c).natAbs <= A * B * C := by
 rw [Int.natAbs_mul, Int.natAbs_mul];exact Nat.mul_le_mul (Nat.mul_le_mul h1 h2) h3
end Go.Proofs.YtegiemcnfbchoaaGreatDoor
namespace Go.Proofs.YtegiemcnfbchoaaGreatDoor
open Go.RowKit Go.Lib
theorem int_pos_of_rat {n : Int} (h : (0 : Rat) < (n : Rat)) : 0 < n := by
 have : ((0 : Int) : Rat) < (n : Rat) := h;exact Rat.intCast_lt_intCast.1 this
theorem int_neg_of_rat {n : Int} (h : (n : Rat) < 0) : n < 0 := by
 have : (n : Rat) < ((0 : Int) : Rat) := h;exact Rat.intCast_lt_intCast.1 this
section
variable {A x y w V : Rat} {a h0 h1 h2 p : Int} {q : Nat}
theorem TriI.dpos (h : TriI A x y w a h0 h1 h2 p q) (hs : (y < x /\ w < x) \/ (x < y /\ x < w)) : 0 < (h0 - h1) * (h0 - h2) := by
 obtain ⟨d1, d2⟩ := h.dif;have e1 : ((h0 - h1 : Int) : Rat) = (x - y) * 2 := by rw [Rat.intCast_sub, d1]
 have e2 : ((h0 - h2 : Int) : Rat) = (x - w) * 2 := by rw [Rat.intCast_sub, d2]
 rcases hs with ⟨s1, s2⟩ | ⟨s1, s2⟩
 ·exact Int.mul_pos (int_pos_of_rat (by rw [e1]; grind)) (int_pos_of_rat (by rw [e2]; grind))
 ·exact Int.mul_pos_of_neg_of_neg (int_neg_of_rat (by rw [e1]; grind)) (int_neg_of_rat (by rw [e2]; grind))
def NumP (V : Rat) (q : Nat) : Prop := ∃ D N : Int, 0 < D /\ D.natAbs <= 23104 /\ N.natAbs <= 1000000000000 * (q * q * q) /\ V * (48 * (q : Rat) * q * q * (D : Rat)) = (N : Rat)
theorem num_bounds (ha : a.natAbs <= 5408) (b0 : h0.natAbs <= 76) (b1 : h1.natAbs <= 76) (b2 : h2.natAbs <= 76) (bp : p.natAbs <= 76 * q) :
 (a * ((h0 * q - 2 * p) * (h0 * q - 2 * p) * (h0 * q - 2 * p))).natAbs <= 100000000000 * (q * q * q) /\ (a * ((h0 + h1 + h2) * q - 6 * p) * (q * q * ((h0 - h1) * (h0 - h2)))).natAbs <= 100000000000 * (q * q * q) /\ (a * ((h0 + h1 + h2) * q - 6 * p) * (q * q)).natAbs <= 100000000000 * (q * q * q) /\ ((h0 - h1) * (h0 - h2)).natAbs <= 23104 := by
 have u0 : (h0 * q - 2 * p).natAbs <= 228 * q := by
  have := Int.natAbs_sub_le (h0 * q) (2 * p);rw [Int.natAbs_mul, Int.natAbs_mul] at this;have h3 : h0.natAbs * ((q : Int).natAbs) <= 76 * q := Nat.mul_le_mul b0 (by omega);have h4 : (2 : Int).natAbs = 2 := rfl;rw [h4] at this;omega
 have us : ((h0 + h1 + h2) * q - 6 * p).natAbs <= 684 * q := by
  have := Int.natAbs_sub_le ((h0 + h1 + h2) * q) (6 * p);rw [Int.natAbs_mul, Int.natAbs_mul] at this;have h3 : (h0 + h1 + h2).natAbs * ((q : Int).natAbs) <= 228 * q := Nat.mul_le_mul (by omega) (by omega);have h4 : (6 : Int).natAbs = 6 := rfl;rw [h4] at this;omega
 have d1 : (h0 - h1).natAbs <= 152 := by omega
 have d2 : (h0 - h2).natAbs <= 152 := by omega
 have dd : ((h0 - h1) * (h0 - h2)).natAbs <= 152 * 152 := by rw [Int.natAbs_mul]; exact Nat.mul_le_mul d1 d2
 have qq : ((q : Int) * q).natAbs = q * q := by rw [Int.natAbs_mul]; rfl
 refine ⟨?_, ?_, ?_, by omega⟩
 ·rw [Int.natAbs_mul]
  refine Nat.le_trans (Nat.mul_le_mul ha (natAbs3 _ _ _ u0 u0 u0)) ?_;have : 5408 * (228 * q * (228 * q) * (228 * q)) = (5408 * 228 * 228 * 228) * (q * q * q) := by grind
  rw [this];exact Nat.mul_le_mul_right _ (by decide)
 ·refine Nat.le_trans (natAbs3 _ _ _ ha us (C := q * q * (152 * 152)) ?_) ?_
  ·rw [Int.natAbs_mul, qq]; exact Nat.mul_le_mul_left _ dd
  ·have : 5408 * (684 * q) * (q * q * (152 * 152)) = (5408 * 684 * (152 * 152)) * (q * q * q) := by grind
   rw [this];exact Nat.mul_le_mul_right _ (by decide)
 ·refine Nat.le_trans (natAbs3 _ _ _ ha us (C := q * q) (by rw [qq]; exact Nat.le_refl _)) ?_
  have : 5408 * (684 * q) * (q * q) = (5408 * 684) * (q * q * q) := by grind
  rw [this];exact Nat.mul_le_mul_right _ (by decide)
theorem TriI.capnot (h : TriI A x y w a h0 h1 h2 p q) (hv : CapP A x y w V \/ NotP A x y w V) (ha : a.natAbs <= 5408) (b0 : h0.natAbs <= 76) (b1 : h1.natAbs <= 76) (b2 : h2.natAbs <= 76) (bp : p.natAbs <= 76 * q) : NumP V q := by
 obtain ⟨n1, n2, -, n4⟩ := num_bounds (q := q) ha b0 b1 b2 bp;rcases hv with ⟨-, g1, g2, g3, r, s, hr, hs, hV⟩ | ⟨-, g1, g2, g3, r, s, hr, hs, hV⟩
 ·exact ⟨_, _, h.dpos (.inl ⟨by grind, by grind⟩), n4, by omega, h.cap hr hs hV⟩
 ·refine ⟨_, _, h.dpos (.inr ⟨by grind, by grind⟩), n4, ?_, h.not hr hs hV⟩
  refine Nat.le_trans (Int.natAbs_sub_le _ _) ?_;omega
theorem TriI.num (h : TriI A x y w a h0 h1 h2 p q) (hv : VolP A x y w V) (ha : a.natAbs <= 5408) (b0 : h0.natAbs <= 76) (b1 : h1.natAbs <= 76) (b2 : h2.natAbs <= 76) (bp : p.natAbs <= 76 * q) : NumP V q := by
 rcases hv with ⟨-, -, -, rfl⟩ | ⟨-, -, -, hV⟩ | hv | hv | hv
 ·exact ⟨1, 0, by decide, by decide, by simp, by grind⟩
 ·obtain ⟨-, -, n3, -⟩ := num_bounds (q := q) ha b0 b1 b2 bp
  refine ⟨1, _, by decide, by decide, Nat.le_trans n3 (by omega), ?_⟩;have c := h.whole hV;rw [Rat.intCast_mul, <- c, Rat.intCast_mul];have e3 : (((q : Nat) : Int) : Rat) = (q : Rat) := rfl;have e4 : ((1 : Int) : Rat) = 1 := rfl;rw [e3, e4];grind
 ·exact h.capnot hv ha b0 b1 b2 bp
 ·exact h.turn.capnot hv ha b1 b2 b0 bp
 ·exact h.turn.turn.capnot hv ha b2 b0 b1 bp
end
end Go.Proofs.YtegiemcnfbchoaaGreatDoor
namespace Go.Proofs.YtegiemcnfbchoaaGreatDoor
open Go.RowKit Go.Lib
theorem RdQ.cells {w : World} {v : Value} {l : List Rat} (h : RdQ w v l) (hn : 0 < l.length) : ∃ b o c : Nat, v = .slice (some ⟨b, o, none⟩) l.length c /\ b < w.heap.size /\ ∀ i : Nat, i < l.length -> w.cell? ⟨b, o + i, none⟩ = some (.string (RS (hI l i))) := by
 obtain ⟨p, c, rfl, -, -, hr⟩ := h.open;obtain ⟨b, o, rfl, hb, hc⟩ := hr (List.ne_nil_of_length_pos hn);exact ⟨b, o, c, rfl, hb, fun i hi => by rw [hI_nat l i hi]; exact hc i hi⟩
theorem RdP.cells {w : World} {v : Value} {P : List PtQ} (h : RdP w v (strP P)) (hn : 0 < P.length) : ∃ b o c : Nat, v = .slice (some ⟨b, o, none⟩) P.length c /\ b < w.heap.size /\ ∀ i : Nat, i < P.length -> w.cell? ⟨b, o + i * 2, none⟩ = some (.string (RS (ptI P i).1)) /\ w.cell? ⟨b, o + i * 2 + 1, none⟩ = some (.string (RS (ptI P i).2)) := by
 obtain ⟨p, c, rfl, -, -, hr⟩ := h.open;obtain ⟨b, o, rfl, hb, hc⟩ := hr (List.ne_nil_of_length_pos (by rw [sPl]; exact hn));refine ⟨b, o, c, by rw [sPl], hb, fun i hi => ?_⟩;have h1 := hc i (by rw [sPl]; exact hi);rw [sPg P i hi] at h1;rw [pIn P i hi];exact h1
theorem RdT.cells {w : World} {v : Value} {T : List Tri} (h : RdT w v T) (hn : 0 < T.length) : ∃ b o c : Nat, v = .slice (some ⟨b, o, none⟩) T.length c /\ b < w.heap.size /\ ∀ t : Nat, t < T.length -> w.cell? ⟨b, o + t * 3, none⟩ = some (.int .i64 (triI T t).1) /\ w.cell? ⟨b, o + t * 3 + 1, none⟩ = some (.int .i64 (triI T t).2.1) /\ w.cell? ⟨b, o + t * 3 + 2, none⟩ = some (.int .i64 (triI T t).2.2) := by
 obtain ⟨p, c, rfl, -, -, hr⟩ := h.open;obtain ⟨b, o, rfl, hb, hc⟩ := hr (List.ne_nil_of_length_pos hn);refine ⟨b, o, c, rfl, hb, fun t ht => ?_⟩;rw [triI_nat T t ht];exact hc t ht
end Go.Proofs.YtegiemcnfbchoaaGreatDoor
