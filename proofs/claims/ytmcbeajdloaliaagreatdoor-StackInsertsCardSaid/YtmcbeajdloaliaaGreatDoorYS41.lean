import Derived.Test.YtmcbeajdloaliaaGreatDoorYS35
/- stack.Insert into a right deposit Append of a row that may be nil slices.Backward over numbers The iterator stack.heights$1. stack.checkPlace. stack.At. stack.At at a place of the sheet. -/
set_option maxHeartbeats 16000000
set_option maxRecDepth 100000
namespace Go.Proofs.YtmcbeajdloaliaaGreatDoor
open Go.RowKit Go.Lib
theorem sf0 (w : World) (vp vt vb vu vs : Value) (P : List PtQ) (T : List Tri) (k : Nat) (B : List Rat) (U : List ByteArray) (S : List (List Rat)) (h : DepN w vp vt vb vu vs P T k B U S) (hk : k <= 90)
 (nm : ByteArray) (nz : Int) (vx : Value) (X : List ByteArray) (hx : RdS w vx X) (hX : TxtOK X) (yq : errF P.length X = 0 -> ∃ R : List Rat, X = R.map RS /\ R.length = P.length /\ ∀ q ∈ R, Sz k q) (hg : Good w) :
 Calls Tryz.prog 11 #[.agg #[vp, vt], .agg #[vb, vu, vs], .agg #[.string nm, .int .i64 nz, vx]] w (Ret (fun r w' => (unitE P.length U nm nz X ≠ 0 /\ r = .tuple #[.agg #[.slice none 0 0, .slice none 0 0, .slice none 0 0], .int .i64 (unitE P.length U nm nz X)]) \/
  (unitE P.length U nm nz X = 0 /\ ∃ v1 v2 v3, r = .tuple #[.agg #[v1, v2, v3], .int .i64 0] /\ RdQ w' v1 B /\ RdS w' v2 (U.take nz.toNat ++ nm :: U.drop nz.toNat) /\ RdF w' v3 (insS B S (X.map numT) nz.toNat) /\ OwnD w' w.heap.size v1 v2 v3 B (U.take nz.toNat ++ nm :: U.drop nz.toNat) (insS B S (X.map numT) nz.toNat))) w) := by
 have HD := hid h;have HX := hid hx;have xO := h.m.plen;obtain ⟨pp, cp, pt, ct, pb, cb, pu, cu, ps, cs, rfl, rfl, rfl, rfl, rfl⟩ := h.open;obtain ⟨px, cx, rfl, -, -, -⟩ := hx.open;have zh : Hid (∀ w', Below w.heap.size w w' -> Good w' -> _) := fun w' hb hg' => sh0 w' _ _ _ _ _ P T k _ U _ (h.below hb).toT hg';rw [h.ok] at zh;have zX : Hid (∀ w', _) := fun w' => iNa nm w';have zW : Hid (∀ w', Below w.heap.size w w' -> _) := fun w' hb => cSa _ U nm w' (h.below hb).unit;have zU : Hid (∀ w', Below w.heap.size w w' -> Good w' -> _) := fun w' hb hg' => fay w' _ _ _ P T k X (h.below hb).p (h.below hb).t h.m (RdC.below hx hb) hX.1 hX.2 hg';obtain ⟨l, hJ⟩ : ∃ r, r = unitE P.length U nm nz X := ⟨_, rfl⟩;rw [<- hJ];have hQ : Hid (l = _) := hJ;unfold unitE at hQ;clear hJ h hx;have xv : U.length <= S.length + 1 := by have := HD.out.ul; omega
 have zg : S.length + 1 <= U.length := by have := HD.out.ul; omega
 have xQ := HD.out.u60;generalize xh : nameQ nm = nb at *;generalize xg : hasS U nm = hb' at *;clear xh xg;have I : Hid (∀ wX : World, BoxN wX (w.heap.size + 3) 45 [.slice none 0 0, .slice none 0 0, .slice none 0 0] -> Below w.heap.size w wX ->
  (((wX.setCell ⟨w.heap.size + 3, 0, none⟩ (.slice none 0 0)).setCell ⟨w.heap.size + 3, 1, none⟩ (.slice none 0 0)).setCell ⟨w.heap.size + 3, 2, none⟩ (.slice none 0 0)).cell? ⟨w.heap.size + 3, 0, none⟩ = some (.slice none 0 0) /\
  (((wX.setCell ⟨w.heap.size + 3, 0, none⟩ (.slice none 0 0)).setCell ⟨w.heap.size + 3, 1, none⟩ (.slice none 0 0)).setCell ⟨w.heap.size + 3, 2, none⟩ (.slice none 0 0)).cell? ⟨w.heap.size + 3, 1, none⟩ = some (.slice none 0 0) /\
  (((wX.setCell ⟨w.heap.size + 3, 0, none⟩ (.slice none 0 0)).setCell ⟨w.heap.size + 3, 1, none⟩ (.slice none 0 0)).setCell ⟨w.heap.size + 3, 2, none⟩ (.slice none 0 0)).cell? ⟨w.heap.size + 3, 2, none⟩ = some (.slice none 0 0) /\
  Below w.heap.size w (((wX.setCell ⟨w.heap.size + 3, 0, none⟩ (.slice none 0 0)).setCell ⟨w.heap.size + 3, 1, none⟩ (.slice none 0 0)).setCell ⟨w.heap.size + 3, 2, none⟩ (.slice none 0 0))) := fun wX hb hB => by
  have k := b3s hb (v0 := .slice none 0 0) (v1 := .slice none 0 0) (v2 := .slice none 0 0);have hi : w.heap.size <= w.heap.size + 3 := by omega
  exact ⟨k.cell 0 rfl, k.cell 1 rfl, k.cell 2 rfl, ((hB.setCell (p := ⟨w.heap.size + 3, 0, none⟩) hi _).setCell (p := ⟨w.heap.size + 3, 1, none⟩) hi _).setCell (p := ⟨w.heap.size + 3, 2, none⟩) hi _⟩
 go_enter Tryz.func11, Tryz.ntmps11;go_wp2_with fail;obtain ⟨W, hW⟩ := zex ((((w.alloc (.cells #[.slice pp P.length cp, .slice pt T.length ct] 41)).alloc (.cells #[.slice pb P.length cb, .slice pu U.length cu, .slice ps S.length cs] 45)).alloc (.cells #[.string nm, .int .i64 nz, .slice px X.length cx] 35)).alloc (.cells #[.slice none 0 0, .slice none 0 0, .slice none 0 0] 45));have hB : Below w.heap.size w W := by rw [hW]; exact ((((Below.refl _ _).alloc (Nat.le_refl _) _).alloc (by simp) _).alloc (by simp; omega) _).alloc (by simp; omega) _
 have b3 : BoxN W w.heap.size 41 [.slice pp P.length cp, .slice pt T.length ct] := by rw [hW]; exact (((BoxN.new w #[.slice pp P.length cp, .slice pt T.length ct] 41 _ rfl).alloc _).alloc _).alloc _
 have b4 : BoxN W (w.heap.size + 1) 45 [.slice pb P.length cb, .slice pu U.length cu, .slice ps S.length cs] := by rw [hW]; exact ((BoxN.new _ #[.slice pb P.length cb, .slice pu U.length cu, .slice ps S.length cs] _ _ (by simp)).alloc _).alloc _
 have t : BoxN W (w.heap.size + 2) 35 [.string nm, .int .i64 nz, .slice px X.length cx] := by rw [hW]; exact (BoxN.new _ #[.string nm, .int .i64 nz, .slice px X.length cx] _ _ (by simp)).alloc _
 have V : BoxN W (w.heap.size + 3) 45 [.slice none 0 0, .slice none 0 0, .slice none 0 0] := by rw [hW]; exact BoxN.new _ #[.slice none 0 0, .slice none 0 0, .slice none 0 0] _ _ (by simp)
 rw [<- hW];clear hW;refine zR (zh.out W hB (hg.below hB)) fun w1 hb1 => ?_;have yi := zbt hB hb1;replace b3 := b3.bl hb1;replace b4 := b4.bl hb1;replace t := t.bl hb1;replace V := V.bl hb1;clear hb1 hB;have d0 := t.cell 0 rfl;go_wp2_with fail;refine zR (zX.out w1) fun w2 hb2 => ?_;have hT := zbt yi hb2;replace b3 := b3.bl hb2;replace b4 := b4.bl hb2;replace t := t.bl hb2;replace V := V.bl hb2;clear hb2 yi d0;obtain ⟨f0, f1, f2⟩ := zk3 V;have hn := V.frozen 0;have h7 := V.frozen 1;have ho := V.frozen 2;cases nb
 case' false =>
  have C : Hid (l = 8) := by unfold Hid; rw [hQ.out, if_pos rfl]
  go_wp2_with fail;obtain ⟨t0, t1, t2, O⟩ := I.out w2 V hT;refine bodyPost_ret (v := .tuple #[.agg #[.slice none 0 0, .slice none 0 0, .slice none 0 0], .int .i64 8]) (by simp [results, Tryz.results11, go_sem, t0, t1, t2]) rfl ⟨_, rfl, .inl ⟨by rw [C.out]; decide, by rw [C.out]⟩, O⟩
 have zj := hid (hQ.out.trans (if_neg (by decide)));clear hQ;have d0 := t.cell 0 rfl;have c1 := b4.cell 1 rfl;clear f0 f1 f2 hn h7 ho;go_wp2_with fail;refine zR (zW.out w2 hT) fun w3 hb3 => ?_;have hd := zbt hT hb3;replace b3 := b3.bl hb3;replace b4 := b4.bl hb3;replace t := t.bl hb3;replace V := V.bl hb3;clear hb3 hT d0 c1;obtain ⟨f0, f1, f2⟩ := zk3 V;have hn := V.frozen 0;have h7 := V.frozen 1;have ho := V.frozen 2;cases hb'
 case' true =>
  have C : Hid (l = 9) := by unfold Hid; rw [zj.out, if_pos rfl]
  go_wp2_with fail;obtain ⟨t0, t1, t2, O⟩ := I.out w3 V hd;refine bodyPost_ret (v := .tuple #[.agg #[.slice none 0 0, .slice none 0 0, .slice none 0 0], .int .i64 9]) (by simp [results, Tryz.results11, go_sem, t0, t1, t2]) rfl ⟨_, rfl, .inl ⟨by rw [C.out]; decide, by rw [C.out]⟩, O⟩
 have hO := hid (zj.out.trans (if_neg (by decide)));clear zj;have d1 := t.cell 1 rfl;have c1 := b4.cell 1 rfl;by_cases zz : nz < 0
 ·have C : Hid (l = 3) := by unfold Hid; rw [hO.out, if_pos (.inl zz)]
  go_wp2_with fail;obtain ⟨t0, t1, t2, O⟩ := I.out w3 V hd;refine bodyPost_ret (v := .tuple #[.agg #[.slice none 0 0, .slice none 0 0, .slice none 0 0], .int .i64 3]) (by simp [results, Tryz.results11, go_sem, t0, t1, t2]) rfl ⟨_, rfl, .inl ⟨by rw [C.out]; decide, by rw [C.out]⟩, O⟩
 by_cases zA : (U.length : Int) <= nz
 ·have C : Hid (l = 3) := by unfold Hid; rw [hO.out, if_pos (.inr zA)]
  go_wp2_with fail;obtain ⟨t0, t1, t2, O⟩ := I.out w3 V hd;refine bodyPost_ret (v := .tuple #[.agg #[.slice none 0 0, .slice none 0 0, .slice none 0 0], .int .i64 3]) (by simp [results, Tryz.results11, go_sem, t0, t1, t2]) rfl ⟨_, rfl, .inl ⟨by rw [C.out]; decide, by rw [C.out]⟩, O⟩
 have zk := hid (hO.out.trans (if_neg (by omega)));clear hO;obtain ⟨m0, m1⟩ := zk2 b3;have d2 := t.cell 2 rfl;clear f0 f1 f2 hn h7 ho;go_wp2_with fail;refine zR (zU.out w3 hd (hg.below hd)) fun w4 hb4 => ?_;have hU := zbt hd hb4;replace b3 := b3.bl hb4;replace b4 := b4.bl hb4;replace t := t.bl hb4;replace V := V.bl hb4;clear hb4 hd d1 c1 m0 m1 d2;by_cases hE : errF P.length X = 0
 case' neg =>
  have C : Hid (l = errF P.length X) := by unfold Hid; rw [zk.out, if_pos hE]
  have yZ := hid hE;have xC : (errF P.length X != 0) = true := by rw [bne_iff_ne]; exact hE
  obtain ⟨f0, f1, f2⟩ := zk3 V;have hn := V.frozen 0;have h7 := V.frozen 1;have ho := V.frozen 2;generalize errF P.length X = ez at *;clear hE;go_wp2_with fail;obtain ⟨t0, t1, t2, O⟩ := I.out w4 V hU;refine bodyPost_ret (v := .tuple #[.agg #[.slice none 0 0, .slice none 0 0, .slice none 0 0], .int .i64 ez]) (by simp [results, Tryz.results11, go_sem, t0, t1, t2]) rfl ⟨_, rfl, .inl ⟨by rw [C.out]; exact yZ.out, by rw [C.out]⟩, O⟩
 have hP := hid (zk.out.trans (if_neg (by rw [hE]; simp)));obtain ⟨R, z1, z0, ym⟩ := yq hE;have zi : Hid (X.map numT = R) := by unfold Hid; rw [z1, nTm]
 have y9 : Hid (RdQ w (.slice px X.length cx) R) := rSt (by rw [<- z1]; exact HX.out);have yp : X.length = P.length := by rw [z1, List.length_map, z0]
 rw [hE];have x4 := hid yp;rw [zi.out] at hP;have zQ : Hid (∀ w', Below w.heap.size w w' -> _) := fun w' hb => cNa w' (.slice px X.length cx) R (RdC.below y9.out hb) (by omega)
 generalize xi : negF R = ng at *;clear zk hE z1 HX hX yp yq zU zW zX zh xi;have d2 := t.cell 2 rfl;go_wp2_with fail;refine zR (zQ.out w4 hU) fun w5 hb5 => ?_;have hf := zbt hU hb5;replace b3 := b3.bl hb5;replace b4 := b4.bl hb5;replace t := t.bl hb5;replace V := V.bl hb5;clear hb5 hU d2 zQ;obtain ⟨f0, f1, f2⟩ := zk3 V;have hn := V.frozen 0;have h7 := V.frozen 1;have ho := V.frozen 2;cases ng
 case' true =>
  have C : Hid (l = 6) := by unfold Hid; rw [hP.out, if_pos rfl]
  go_wp2_with fail;obtain ⟨t0, t1, t2, O⟩ := I.out w5 V hf;refine bodyPost_ret (v := .tuple #[.agg #[.slice none 0 0, .slice none 0 0, .slice none 0 0], .int .i64 6]) (by simp [results, Tryz.results11, go_sem, t0, t1, t2]) rfl ⟨_, rfl, .inl ⟨by rw [C.out]; decide, by rw [C.out]⟩, O⟩
 have zl := hid (hP.out.trans (if_neg (by decide)));clear hP;have c1 := b4.cell 1 rfl;by_cases h60 : U.length = 60
 ·have C : Hid (l = 4) := by unfold Hid; rw [zl.out, if_pos h60]
  have yh : ((U.length : Int) == 60) = true := by rw [beq_iff_eq]; omega
  clear h60;go_wp2_with fail;obtain ⟨t0, t1, t2, O⟩ := I.out w5 V hf;refine bodyPost_ret (v := .tuple #[.agg #[.slice none 0 0, .slice none 0 0, .slice none 0 0], .int .i64 4]) (by simp [results, Tryz.results11, go_sem, t0, t1, t2]) rfl ⟨_, rfl, .inl ⟨by rw [C.out]; decide, by rw [C.out]⟩, O⟩
 have yh : ((U.length : Int) == 60) = false := by rw [beq_eq_false_iff_ne]; omega
 have x3 : Hid (l = 0) := by unfold Hid; rw [zl.out, if_neg h60]
 clear zl h60 f0 f1 f2 hn h7 ho;obtain ⟨n, rfl⟩ : ∃ n : Nat, nz = n := ⟨nz.toNat, by omega⟩;have xN : n < U.length := by omega
 have hq : n <= S.length := by omega
 have xD : 0 < P.length := by
  obtain ⟨tr, xl⟩ := List.exists_mem_of_ne_nil _ HD.out.m.some;obtain ⟨h0, h1⟩ := HD.out.m.idx tr xl tr.1 (by simp [idxOf]);omega
 have y6 : Hid (∀ w', Below w.heap.size w w' -> _) := fun w' hb => sq0 w' _ _ _ B U S (HD.out.below hb).base (HD.out.below hb).unit (HD.out.below hb).surf (fun e => by have h1 := HD.out.fl B (by simp); rw [e] at h1; simp at h1; omega) (fun e => by rw [e] at zg; simp at zg)
  (fun F hF e => by have h1 := HD.out.fl F (List.mem_cons_of_mem _ hF); rw [e] at h1; simp at h1; omega) (by have h1 := HD.out.fl B (by simp); omega) (by omega) (by omega) (fun F hF => by have h1 := HD.out.fl F (List.mem_cons_of_mem _ hF); omega)
 obtain ⟨m0, m1, m2⟩ := zk3 b4;go_wp2_with fail;have xR : w.heap.size + 4 <= w5.heap.size := by have := V.lt; omega
 refine (y6.out w5 hf).mono ?_;rintro e w6 ⟨_, rfl, ⟨v1, v2, v3, rfl, o1, o2, M, yl, x9, x8, o3⟩, z3⟩;obtain ⟨q1, d, rfl⟩ := FldV.shape o1;obtain ⟨q2, k2, rfl⟩ := oRs o2;obtain ⟨q3, k3, rfl⟩ := o3.v.shape;clear m0 m1 m2 y6 c1;go_upto_region 18 with fail;obtain ⟨W7, h8⟩ := zex (w6.alloc (.cells #[.slice q1 B.length d, .slice q2 U.length k2, .slice q3 S.length k3] 45));obtain ⟨z, hz⟩ := zex (w6.heap.size);have ht : BoxN W7 z 45 [.slice q1 B.length d, .slice q2 U.length k2, .slice q3 S.length k3] := by rw [h8]; exact BoxN.new _ #[.slice q1 B.length d, .slice q2 U.length k2, .slice q3 S.length k3] _ _ hz.symm
 have hV : Below w5.heap.size w5 W7 := by rw [h8]; exact z3.alloc z3.size _
 have zD : W7.ownsRow w5.heap.size 55 1 (.slice q1 B.length d) B.length (cFd B) := by rw [h8]; exact World.ownsRow.alloc o1 _
 have hc := World.ownsRow.alloc o2 (.cells #[.slice q1 B.length d, .slice q2 U.length k2, .slice q3 S.length k3] 45);rw [<- h8] at hc;have yE : FlsD 33 W7 M (.slice q3 S.length k3) S := by rw [h8]; exact o3.below ((Below.refl _ _).alloc (Nat.le_refl _) _)
 have hL : w5.heap.size <= z := by rw [hz]; exact z3.size
 rw [<- hz] at x9;have xw : z + 1 <= W7.heap.size := by rw [h8, hz]; simp
 rw [<- h8, <- hz];clear h8 o1 o2 o3 z3 hz;have zo := t.bl hV;have x1 := ht.cell 1 rfl;have xq := ht.frozen 1;have e1 := zo.cell 1 rfl;have e0 := zo.cell 0 rfl;have xn := ht.lt;have yA := hV.size;go_wp2_with fail;have ze := im0 (W7.alloc (.cells #[.string nm] 9)) w5.heap.size (.slice q2 U.length k2) U.length n W7.heap.size _ (.string nm) (hc.alloc _) (BoxN.new _ _ _ _ rfl) (fun u hu => by obtain ⟨y, _, rfl⟩ := List.mem_map.1 hu; rfl) rfl (by omega) (by omega) (by simp; omega) (fun e => by have := (hc.lt _ e).2; omega);refine ze.mono ?_;rintro e w8 ⟨v8, rfl, z9, hp⟩;obtain ⟨q8, k8, rfl⟩ := oRs z9;have hy := ht.alloc (.cells #[.string nm] 9);have H := hy.gb hp (fun e => obN (hc.alloc (.cells #[.string nm] 9)) hy (by decide) e.symm);have zE := World.ownsRow.kept (zD.alloc (.cells #[.string nm] 9)) hp (oat (zD.alloc (.cells #[.string nm] 9)) (hc.alloc (.cells #[.string nm] 9)) (by decide));have yF : FlsD 33 w8 M (.slice q3 S.length k3) S := (yE.below ((Below.refl _ _).alloc (Nat.le_refl _) (.cells #[.string nm] 9))).kept hp (fun x e s n xs he h => oat h (hc.alloc (.cells #[.string nm] 9)) (by rcases he with rfl | rfl <;> decide));have yj : Below w5.heap.size w5 w8 := (hV.alloc yA (.cells #[.string nm] 9)).grown hp (by simp; omega) (fun j hj => (hc.lt j hj).1);have xp := H.cell 1 rfl;have yU := H.frozen 1;clear ze x1 xq e1 e0 zo hy;go_upto_region 19 with fail;obtain ⟨W9, hC⟩ := zex (w8.setCell ⟨z, 1, none⟩ (.slice q8 (U.length + 1) k8));have hH : w8.grownBy W9 (some z) := by rw [hC]; exact gst (grl w8 _) 1 _
 have zd : BoxN W9 z 45 [.slice q1 B.length d, .slice q8 (U.length + 1) k8, .slice q3 S.length k3] := by rw [hC]; exact H.set 1 _
 have yD := World.ownsRow.kept zE hH (.inr (fun e => obN zE H (by decide) e.symm));have za := World.ownsRow.kept z9 hH (.inr (fun e => obN z9 H (by decide) e.symm));have yG := yF.kept hH (fun x e s n xs he h => .inr (fun e' => obN h H (by rcases he with rfl | rfl <;> decide) e'.symm));have zt : Below w5.heap.size w5 W9 := by rw [hC]; exact yj.setCell (p := ⟨z, 1, none⟩) hL _
 rw [<- hC];have yB : W7.heap.size <= W9.heap.size := by have h1 := hp.size; have h2 := hH.size; simp at h1; omega
 clear hC hH zE z9 yF H xp yU zD hc yE ht hV yj yA xn hp;have y0 : Hid ((U.map fun x => Value.string x).take n ++ Value.string nm :: (U.map fun x => Value.string x).drop n = (U.take n ++ nm :: U.drop n).map fun x => Value.string x) := by unfold Hid; simp
 rw [y0.out] at za;have yo : (U.take n ++ nm :: U.drop n).length = U.length + 1 := by simp; omega
 have zm := hid yo;clear yo y0;obtain ⟨U1, zv⟩ := zex (U.take n ++ nm :: U.drop n);rw [<- zv] at za zm;have y8 := hid zv;clear zv;obtain ⟨pf, cf, hD, yn⟩ := (HD.out).surface n hq;have hr : Hid ((fldN B S n).length = P.length) := HD.out.fl _ (fNm B S hq);have zP : Hid (∀ w', Below w.heap.size w w' -> Calls Tryz.prog 47 #[.slice pf P.length cf] w' (Ret (fun r w2 => FldV w2 w'.heap.size r (fldN B S n)) w')) := fun w' hb =>
  cf0 w' _ _ (RdC.below hD hb) (fun e => by have := hr.out; rw [e] at this; simp at this; omega) (by have := hr.out; omega)
 have y7 := hid yn;have h4 : Hid (∀ w', Below w5.heap.size w5 w' -> Below w.heap.size w w') := fun w' hb => (zbt hf hb);have N : Hid (∀ w', Below w5.heap.size w5 w' -> (w'.cell? ⟨w.heap.size + 1, 0, none⟩ = some (.slice pb P.length cb) /\ w'.cell? ⟨w.heap.size + 1, 1, none⟩ = some (.slice pu U.length cu) /\ w'.cell? ⟨w.heap.size + 1, 2, none⟩ = some (.slice ps S.length cs)) /\ w'.cell? ⟨w.heap.size + 2, 1, none⟩ = some (.int .i64 n)) := fun w' hb => by
  have y4 := b4.bl hb;have y5 := t.bl hb;exact ⟨⟨y4.cell 0 rfl, y4.cell 1 rfl, y4.cell 2 rfl⟩, y5.cell 1 rfl⟩
 clear yn hD;have g0 : Below w5.heap.size w5 W9.drew := zt.trans ((bdN W9 1).mono zt.size);have c0 : BoxN W9.drew z 45 [.slice q1 B.length d, .slice q8 (U.length + 1) k8, .slice q3 S.length k3] := zd.drew;have yN := odw yD;have yQ := odw za;have yT := yG.below (bdN W9 1);have yV := c0.cell 2 rfl;have xS := zt.size;have xx : W7.heap.size <= W9.heap.size := yB;clear yD za yG zd;go_upto_region 19 with fail;refine AnyL.region (S := Till 12 (fun w' => (w'.cell? ⟨w.heap.size + 1, 0, none⟩ = some (.slice pb P.length cb) /\ w'.cell? ⟨w.heap.size + 1, 1, none⟩ = some (.slice pu U.length cu) /\ w'.cell? ⟨w.heap.size + 1, 2, none⟩ = some (.slice ps S.length cs)) /\ w'.cell? ⟨w.heap.size + 2, 1, none⟩ = some (.int .i64 n)) (fun w' => w'.cell? ⟨z, 2, none⟩ = some (.slice q3 S.length k3))) (by kernel_rfl) ?_;have Y : Till 12 (fun w' => (w'.cell? ⟨w.heap.size + 1, 0, none⟩ = some (.slice pb P.length cb) /\ w'.cell? ⟨w.heap.size + 1, 1, none⟩ = some (.slice pu U.length cu) /\ w'.cell? ⟨w.heap.size + 1, 2, none⟩ = some (.slice ps S.length cs)) /\ w'.cell? ⟨w.heap.size + 2, 1, none⟩ = some (.int .i64 n)) (fun w' => w'.cell? ⟨z, 2, none⟩ = some (.slice q3 S.length k3)) (Array.replicate 13 false) _ := ⟨N.out _ g0, fun _ => yV⟩;refine zlk 0 Y ?_;try simp only [Act.put]
 refine AnyL.take2 (i := 1) (oi := _) (v := ?_) rfl (by kernel_rfl) (by kernel_rfl) (by kernel_rfl) (by decide) (ok := _) rfl (by kernel_rfl) (by kernel_rfl) (fun _ _ _ h => h) (Or.inl ⟨by rfl, ?_⟩) ⟨Y.1, fun _ => Y.2 (by rfl)⟩ ?_;rotate_left
 ·intro w zu; (try dsimp only at zu); first | (go_simp; done) | (go_simp; with_reducible rfl)
 try simp only [Act.put]
 refine zlk 2 Y ?_;try simp only [Act.put]
 refine zlk 3 Y ?_;try simp only [Act.put]
 refine zlk 4 Y ?_;try simp only [Act.put]
 refine zlk 5 Y ?_;try simp only [Act.put]
 refine zlk 6 Y ?_;try simp only [Act.put]
 refine AnyL.one (i := 7) (o := _) (by kernel_rfl) rfl (fun K hK => ?_);go_simp
 (refine (y7.out _ (h4.out _ g0)).mono ?_; rintro e y1 ⟨_, rfl, rfl, L⟩; have g1 := zbt g0 L; have c1 := c0.bl L; have yO := WRA yN L; have yR := WRA yQ L; obtain ⟨us, h0, h1, h2, h3⟩ := yT.below L; have zY := hid (FlsD.lt h0 h2); have yW := c1.cell 2 rfl; have s1 := L.size)
 refine hK.out _ _ ⟨N.out _ g1, fun hk => yW⟩ (fun Y => ?_);clear hK K;try simp only [Act.put]
 refine AnyL.one (i := 8) (o := _) (by kernel_rfl) rfl (fun K hK => ?_);go_simp
 (refine (zP.out _ (h4.out _ g1)).mono ?_; rintro e y2 ⟨vF, rfl, hF, h9⟩; obtain ⟨pF, cF, rfl⟩ := FldV.shape hF; have g2 := zbt g1 h9; have c2 := c1.bl h9; have zH := WRA yO h9; have zJ := WRA yR h9; have hR := WRA h1 h9; have hS : ∀ (i : Nat) (u : Value) (F : List Rat), us[i]? = some u -> S[i]? = some F -> FldV y2 M u F := fun i u F a b => (h2 i u F a b).below h9; have zL := c2.cell 2 rfl; have s2 := h9.size)
 refine hK.out _ _ ⟨N.out _ g2, fun hk => zL⟩ (fun Y => ?_);clear hK K;try simp only [Act.put]
 refine AnyL.one (i := 9) (o := _) (by kernel_rfl) rfl (fun K hK => ?_);go_simp;refine hK.out _ _ ⟨N.out _ (g2.alloc g2.size _), fun hk => (cal _ zL)⟩ (fun Y => ?_);clear hK K;try simp only [Act.put]
 refine AnyL.one (i := 10) (o := _) (by kernel_rfl) rfl (fun K hK => ?_);go_simp
 (have hI := iFa (y2.alloc (.cells #[.slice pF (fldN B S n).length cF] 33)) M (.slice q3 S.length k3) S.length n y2.heap.size us (.slice pF (fldN B S n).length cF) (hR.alloc _) (BoxN.new _ _ _ _ rfl) (FlsD.one h0 hS) rfl hq (by omega) (by have : W9.heap.size <= y1.heap.size := s1; simp; omega) (fun e => by have := (hR.lt _ e).2; omega); refine hI.mono ?_; rintro e y3 ⟨vR, rfl, Q, m⟩; obtain ⟨pR, A, rfl⟩ := oRs Q; have zp := c2.alloc (.cells #[.slice pF (fldN B S n).length cF] 33); have D := hR.alloc (.cells #[.slice pF (fldN B S n).length cF] 33); have c3 := zp.gb m (fun e => obN D zp (by decide) e.symm); have zI := World.ownsRow.kept (zH.alloc (.cells #[.slice pF (fldN B S n).length cF] 33)) m (oat (zH.alloc (.cells #[.slice pF (fldN B S n).length cF] 33)) D (by decide)); have zK := World.ownsRow.kept (zJ.alloc (.cells #[.slice pF (fldN B S n).length cF] 33)) m (oat (zJ.alloc (.cells #[.slice pF (fldN B S n).length cF] 33)) D (by decide)); have g3 := (g2.alloc g2.size (.cells #[.slice pF (fldN B S n).length cF] 33)).grown m (by have := g2.size; simp; omega) (fun j hj => Nat.le_trans yl (D.lt j hj).1); have zS := hid (FlsD.ins (E := 33) (M := y1.heap.size) h0 hq (fun i u F a b => World.ownsRow.kept (World.ownsRow.alloc (hS i u F a b) (.cells #[.slice pF (fldN B S n).length cF] 33)) m (oat (World.ownsRow.alloc (hS i u F a b) (.cells #[.slice pF (fldN B S n).length cF] 33)) D (by decide))) h3 zY.out Q (World.ownsRow.kept (World.ownsRow.alloc hF (.cells #[.slice pF (fldN B S n).length cF] 33)) m (oat (World.ownsRow.alloc hF (.cells #[.slice pF (fldN B S n).length cF] 33)) D (by decide))) (fun e => by have := hr.out; rw [e] at this; simp at this; omega) (by have : W9.heap.size <= y1.heap.size := s1; omega)); have yX := c3.cell 2 rfl; have yY := c3.frozen 2; clear hI zp D)
 refine hK.out _ _ ⟨N.out _ g3, fun hk => yX⟩ (fun Y => ?_);clear hK K;try simp only [Act.put]
 refine zlk 11 Y ?_;try simp only [Act.put]
 refine AnyL.one (i := 12) (o := _) (by kernel_rfl) rfl (fun K hK => ?_);go_simp;refine hK.out _ _ ⟨N.out _ (g3.setCell (p := ⟨z, 2, none⟩) hL _), fun hk => (by simp at hk)⟩ (fun Y => ?_);clear hK K;try simp only [Act.put]
 refine AnyL.done (by kernel_rfl) ?_ _;obtain ⟨W4, hA⟩ := zex (y3.setCell ⟨z, 2, none⟩ (.slice pR (S.length + 1) A));have z5 : y3.grownBy W4 (some z) := by rw [hA]; exact gst (grl y3 _) 2 _
 have c4 : BoxN W4 z 45 [.slice q1 B.length d, .slice q8 (U.length + 1) k8, .slice pR (S.length + 1) A] := by rw [hA]; exact c3.set 2 _
 have yP := World.ownsRow.kept zI z5 (.inr (fun e => obN zI c3 (by decide) e.symm));have yS := World.ownsRow.kept zK z5 (.inr (fun e => obN zK c3 (by decide) e.symm));have d4 := zS.out.kept z5 (fun x e s n xs he h => .inr (fun e' => obN h c3 (by rcases he with rfl | rfl <;> decide) e'.symm));have g4 : Below w5.heap.size w5 W4 := by rw [hA]; exact g3.setCell (p := ⟨z, 2, none⟩) hL _
 rw [<- hA];clear hA z5 zI zK zS c3 g3 yX yY m Q zH zJ hR hS zL c2 g2 hF h9 yO yR h1 h2 h3 zY yW c1 g1 L yN yQ yT c0 yV g0 zP y7 N;obtain ⟨Z, hZ⟩ := zex (S.take n ++ fldN B S n :: S.drop n);have ys : Z.length = S.length + 1 := by rw [hZ]; simp; omega
 have yr : ∀ F ∈ Z, F.length = R.length /\ ∀ q ∈ F, Sz k q := fun F hF => by
  have hm : F ∈ B :: S := by
   rw [hZ] at hF;rcases List.mem_append.1 hF with h1 | h1
   ·exact List.mem_cons_of_mem _ (List.mem_of_mem_take h1)
   ·rcases List.mem_cons.1 h1 with rfl | h2
    ·exact fNm B S hq
    ·exact List.mem_cons_of_mem _ (List.mem_of_mem_drop h2)
  exact ⟨(HD.out.fl F hm).trans z0.symm, HD.out.fs F hm⟩
 have zT : Hid (midR Z R n (S.length + 1) 0 = insS B S R n) := by unfold Hid; rw [hZ]; exact mRe hq
 rw [<- hZ] at d4;have yd : FlsD 33 W4 M (.slice pR (S.length + 1) A) (midR Z R n n 0) := by rw [mRs]; exact d4
 have ya := hid yr;have zn := hid ys;have hN := hid z0;have zZ := hid ym;have zy := HD.out.m.kpos;clear d4 hZ yr ys z0 ym h0 us;have e1 := (t.bl g4).cell 1 rfl;obtain ⟨bx, ox, xA, xm, yu, yz⟩ := y9.out.cells (by have := hN.out; omega);injection xm with hv1 hv2 hv3
 clear hv2;subst hv1 hv3;go_wp2_with fail;go_loopw [11] (fun t11 wr => ∃ i : Nat, t11 = .int .i64 i /\ n <= i /\ i <= S.length + 1 /\ BoxN wr z 45 [.slice q1 B.length d, .slice q8 (U.length + 1) k8, .slice pR (S.length + 1) A] /\
  FlsD 33 wr M (.slice pR (S.length + 1) A) (midR Z R n i 0) /\ FldV wr w5.heap.size (.slice q1 B.length d) B /\ wr.ownsRow w5.heap.size 9 1 (.slice q8 (U.length + 1) k8) (U.length + 1) (U1.map fun x => Value.string x) /\ Below w5.heap.size w5 wr) (fun t11 _ => S.length + 1 - (RowKit.intOf t11).toNat)
 case atStart => exact ⟨n, rfl, Nat.le_refl _, by omega, c4, yd, yP, yS, g4⟩
 case round =>
  obtain ⟨i, rfl, xk, xI, cr, dr, p1, p2, gr⟩ := hrel;have x2 := cr.cell 2 rfl;clear c4 yd yP yS g4 e1;rcases Nat.lt_or_ge i (S.length + 1) with xM | xH
  ·have xJ : (i : Int) < (S.length : Int) + 1 := by omega
   obtain ⟨F, hF⟩ : ∃ F, Z[i]? = some F := ⟨_, List.getElem?_eq_getElem (by have := zn.out; omega)⟩;obtain ⟨hY, yk⟩ := ya.out F (List.mem_of_getElem? hF);have x7 : F ≠ [] := fun e => by rw [e] at hY; simp at hY; have := hN.out; omega
   have Q := mRh (X := R) (n := n) (k := 0) hF;rw [rUz] at Q;obtain ⟨gR, xz, g, c, hv, zz, zA, xc, -, -, -, -, -, -, -, -, -, -⟩ := dr.row (by decide) Q x7;rw [mRl, zn.out] at hv zz;injection hv with hv1 hv2 hv3
   clear hv2;subst hv1 hv3;have xP : ((S.length + 1 : Nat) : Int) <= (A : Int) := by omega
   unfold maxLen at zA;have HF := hid hF;have hs := hid hY;have zV := hid yk;have xE : F.length <= 1000000 := by have := hN.out; omega
   clear hY yk Q hF;go_wp2_with fail;go_loopw [103] (fun t103 wi => ∃ j : Nat, t103 = .int .i64 j /\ j <= F.length /\ BoxN wi z 45 [.slice q1 B.length d, .slice q8 (U.length + 1) k8, .slice (some ⟨gR, 0, none⟩) (S.length + 1) A] /\
    FlsD 33 wi M (.slice (some ⟨gR, 0, none⟩) (S.length + 1) A) (midR Z R n i j) /\ FldV wi w5.heap.size (.slice q1 B.length d) B /\ wi.ownsRow w5.heap.size 9 1 (.slice q8 (U.length + 1) k8) (U.length + 1) (U1.map fun x => Value.string x) /\ Below w5.heap.size w5 wi) (fun t103 _ => F.length - (RowKit.intOf t103).toNat)
   case atStart => exact ⟨0, rfl, Nat.zero_le _, cr, dr, p1, p2, gr⟩
   case round =>
    obtain ⟨j, rfl, hj, ci, di, zG, zb, gi⟩ := hrel;rcases Nat.lt_or_ge j F.length with z7 | xK
    ·have xL : (j : Int) < (F.length : Int) := by omega
     have z6 : j < R.length := by have := hs.out; omega
     have Q := mRh (X := R) (n := n) (k := j) HF.out;have zB : (rowUp F R j).length = F.length := rUl (hs.out) j;obtain ⟨xB, xy, J, c', hv, -, -, zx, xa, xb, xG, yw, xt, yx, hl, yv, ⟨lg, z4⟩, zf⟩ := di.row (by decide) Q (fun e => by rw [e] at zB; simp at zB; omega);rw [mRl, zn.out] at hv;injection hv with hv1 hv2 hv3
     injection hv1 with hv1
     injection hv1 with hv1
     clear hv2;subst hv1 hv3;have hD := yv j;have zw := hl j (by omega);have yt : (rowUp F R j)[j]'(by omega) = F[j] := by
      have h5 := rg0 (X := R) (hs.out) z7;rw [List.getElem?_eq_getElem (by omega)] at h5;exact Option.some.inj h5
     rw [yt] at zw;rw [zB] at zx xa;have xF : (F.length : Int) <= (c' : Int) := by omega
     unfold maxLen at xb;have zc : Hid (∀ w', Below wr.heap.size wr w' -> FlsD 33 (w'.setCell ⟨J, j, none⟩ (.string (RS (F[j] + R[j])))) M (.slice (some ⟨gR, 0, none⟩) (S.length + 1) A) (midR Z R n i (j + 1))) := fun w' hw => by
      have h5 := zf w' hw j (F[j] + R[j]) (by omega);rw [mf0 HF.out (hs.out) z7] at h5;exact h5
     have xj := (gi.cell (p := ⟨bx, ox + j, none⟩) (Nat.lt_of_lt_of_le yu (h4.out _ (Below.refl _ _)).size)).trans (((h4.out _ (Below.refl _ _)).cell (p := ⟨bx, ox + j, none⟩) yu).trans (yz j z6));rw [ho0 R j z6] at xj;have zM := hid fun w hg => rAa F[j] R[j] k zy (by omega) (zV.out _ (List.getElem_mem z7)) (zZ.out _ (List.getElem_mem z6)) w hg
     have zO := hid fun w hg => rCo (F[j] + R[j]) ((Sz.add (zV.out _ (List.getElem_mem z7)) (zZ.out _ (List.getElem_mem z6))).mono (by omega)) w hg
     generalize F[j] = f at *;generalize R[j] = x at *;have yy : J ≠ z := fun e => by
      subst e;unfold BoxN at z4 ci;rw [z4] at ci;injection ci with ci
      injection ci with _ h5
      exact absurd h5 (by decide)
     have xd : w5.heap.size <= J := by omega
     have xe : J ≠ bx := by have := (h4.out _ (Below.refl _ _)).size; omega
     have y2 := (t.bl gi).cell 2 rfl;have z2 := ci.cell 2 rfl;have N : Hid (∀ w', wr.grownBy w' (some J) -> (w'.cell? ⟨z, 2, none⟩ = some (.slice (some ⟨gR, 0, none⟩) (S.length + 1) A) /\ w'.cell? ⟨gR, i, none⟩ = some (.slice (some ⟨J, 0, none⟩) F.length c')) /\ w'.cell? ⟨w.heap.size + 2, 2, none⟩ = some (.slice (some ⟨bx, ox, none⟩) R.length cx) /\ w'.cell? ⟨bx, ox + j, none⟩ = some (.string (RS x))) := fun w' hb => by
      have key : ∀ {a : Addr} {v : Value}, wr.cell? a = some v -> a.block ≠ J -> w'.cell? a = some v := fun {a v} ha hne => by
       have h6 := hb.block a.block (World.block_lt_of_cell? wr a ha) (fun e => hne (Option.some.inj e));unfold World.cell? at ha ⊢;rw [h6];exact ha
      exact ⟨⟨key z2 (Ne.symm yy), key zx yx⟩, key (by rw [<- x4.out.trans hN.out.symm]; exact y2) (by show w.heap.size + 2 ≠ J; omega), key xj (Ne.symm xe)⟩
     have xu : (j : Int) < (R.length : Int) := by omega
     have m : Good wr := hg.below (h4.out _ gi);have k0 : wr.grownBy wr.drew (some J) := gdw (grl wr _);have yC : Below wr.heap.size wr wr.drew := bdN wr 1;have zq : wr.drew.cell? ⟨J, j, none⟩ = some (.string (RS f)) := zw;have xT := gi.size;have zN := hid z4;clear zf hl yv zx xj y2 z2 z4 Q yt yz;go_upto_region 26 with fail;refine AnyL.region (S := Till 21 (fun w' => (w'.cell? ⟨z, 2, none⟩ = some (.slice (some ⟨gR, 0, none⟩) (S.length + 1) A) /\ w'.cell? ⟨gR, i, none⟩ = some (.slice (some ⟨J, 0, none⟩) F.length c')) /\ w'.cell? ⟨w.heap.size + 2, 2, none⟩ = some (.slice (some ⟨bx, ox, none⟩) R.length cx) /\ w'.cell? ⟨bx, ox + j, none⟩ = some (.string (RS x))) (fun w' => w'.cell? ⟨J, j, none⟩ = some (.string (RS f)))) (by kernel_rfl) ?_;have Y : Till 21 (fun w' => (w'.cell? ⟨z, 2, none⟩ = some (.slice (some ⟨gR, 0, none⟩) (S.length + 1) A) /\ w'.cell? ⟨gR, i, none⟩ = some (.slice (some ⟨J, 0, none⟩) F.length c')) /\ w'.cell? ⟨w.heap.size + 2, 2, none⟩ = some (.slice (some ⟨bx, ox, none⟩) R.length cx) /\ w'.cell? ⟨bx, ox + j, none⟩ = some (.string (RS x))) (fun w' => w'.cell? ⟨J, j, none⟩ = some (.string (RS f))) (Array.replicate 22 false) _ := ⟨N.out _ k0, fun _ => zq⟩;refine zlk 0 Y ?_;try simp only [Act.put]
     refine zlk 1 Y ?_;try simp only [Act.put]
     refine zlk 2 Y ?_;try simp only [Act.put]
     refine zlk 3 Y ?_;try simp only [Act.put]
     refine zlk 4 Y ?_;try simp only [Act.put]
     refine zlk 5 Y ?_;try simp only [Act.put]
     refine zlk 6 Y ?_;try simp only [Act.put]
     refine zlk 7 Y ?_;try simp only [Act.put]
     refine zlk 8 Y ?_;try simp only [Act.put]
     refine zlk 9 Y ?_;try simp only [Act.put]
     refine zlk 10 Y ?_;try simp only [Act.put]
     refine zlk 11 Y ?_;try simp only [Act.put]
     refine zlk 12 Y ?_;try simp only [Act.put]
     refine AnyL.take2 (i := 13) (oi := _) (v := ?_) rfl (by kernel_rfl) (by kernel_rfl) (by kernel_rfl) (by decide) (ok := _) rfl (by kernel_rfl) (by kernel_rfl) (fun _ _ _ h => h) (Or.inl ⟨by rfl, ?_⟩) ⟨Y.1, fun _ => Y.2 (by rfl)⟩ ?_;rotate_left
     ·intro w zu; (try dsimp only at zu); first | (go_simp; done) | (go_simp; with_reducible rfl)
     try simp only [Act.put]
     refine zlk 14 Y ?_;try simp only [Act.put]
     refine zlk 15 Y ?_;try simp only [Act.put]
     refine zlk 16 Y ?_;try simp only [Act.put]
     refine zlk 17 Y ?_;try simp only [Act.put]
     refine zlk 18 Y ?_;try simp only [Act.put]
     refine AnyL.one (i := 19) (o := _) (by kernel_rfl) rfl (fun K hK => ?_);go_simp
     (refine (zM.out _ (m.drewN 1)).mono ?_; rintro e y1 ⟨_, rfl, rfl, L⟩; have zC := zbt yC L; have z8 : wr.grownBy y1 (some J) := gbw k0 L; have zr : y1.cell? ⟨J, j, none⟩ = some (.string (RS f)) := (zcq L (by show J < wr.heap.size; exact yw) zq :); have h7 : y1.frozen? ⟨J, j, none⟩ = false := (L.frozen (p := ⟨J, j, none⟩) (by show J < wr.heap.size; exact yw)).trans hD)
     refine hK.out _ _ ⟨N.out _ z8, fun hk => zr⟩ (fun Y => ?_);clear hK K;try simp only [Act.put]
     refine zlk 20 Y ?_;try simp only [Act.put]
     refine AnyL.one (i := 21) (o := _) (by kernel_rfl) rfl (fun K hK => ?_);go_simp;refine hK.out _ _ ⟨N.out _ (gst z8 _ _), fun hk => (by simp at hk)⟩ (fun Y => ?_);clear hK K;try simp only [Act.put]
     refine AnyL.done (by kernel_rfl) ?_ _;obtain ⟨W8, hh⟩ := zex (y1.setCell ⟨J, j, none⟩ (.string (RS (f + x))));have hM : wr.grownBy W8 (some J) := by rw [hh]; exact gst z8 _ _
     have xf : y1.grownBy W8 (some J) := by rw [hh]; exact gst (grl y1 _) _ _
     have yf : FlsD 33 W8 M (.slice (some ⟨gR, 0, none⟩) (S.length + 1) A) (midR Z R n i (j + 1)) := by rw [hh]; exact zc.out y1 zC
     have yc := ci.gb hM (fun e => yy (Option.some.inj e));have yK := World.ownsRow.kept zG hM (.inr (fun e => by have := x8 _ e; omega));have yM := World.ownsRow.kept zb hM (.inr (fun e => obN zb zN.out (by decide) e.symm));have zs : Below w5.heap.size w5 W8 := by rw [hh]; exact ((zbt gi zC)).setCell (p := ⟨J, j, none⟩) xd _
     have x5 : W8.cell? ⟨J, j, none⟩ = some (.string (RS (f + x))) := by rw [hh]; exact World.cell?_setCell_same' _ _ _ (by rw [zr]; rfl)
     obtain ⟨⟨xr, xo⟩, -, -⟩ := N.out W8 hM;rw [<- hh];clear hh hM xf zc N zM z8 zC L zr h7 zq k0 yC zw hD zG zb ci di zN;go_wp2_with fail;refine zR (zO.out W8 (hg.below (h4.out _ zs))) fun W10 hb10 => ?_;have yg := zbt zs hb10;have yb := yc.bl hb10;have yJ := WRA yK hb10;have yL := WRA yM hb10;have ye := yf.below hb10;clear hb10 zs yc yK yM yf x5 xr xo zO;go_wp2_with fail;go_roundw
     case rel => exact ⟨j + 1, by go_num, by omega, yb, ye, yJ, yL, yg⟩
     case measure =>
      show F.length - ((j : Int) + 1).toNat < F.length - ((j : Int)).toNat;omega
    ·obtain rfl : j = F.length := by omega
     have dn : FlsD 33 wr M (.slice (some ⟨gR, 0, none⟩) (S.length + 1) A) (midR Z R n (i + 1) 0) := by
      rw [hs.out, mRn xk (fun G hG => (ya.out G hG).1)] at di;exact di
     go_wp2_with fail;go_roundw
     case rel => exact ⟨i + 1, by go_num, by omega, by omega, ci, dn, zG, zb, gi⟩
     case measure =>
      show S.length + 1 - ((i : Int) + 1).toNat < S.length + 1 - ((i : Int)).toNat;omega
  ·obtain rfl : i = S.length + 1 := by omega
   have c6 := V.bl gr;obtain ⟨t0, t1, t2⟩ := zk3 c6;have f0 := c6.frozen 0;have f1 := c6.frozen 1;have f2 := c6.frozen 2;obtain ⟨x0, x1⟩ := zk2 cr;go_wp2_with fail;have kk := b3s c6 (v0 := .slice q1 B.length d) (v1 := .slice q8 (U.length + 1) k8) (v2 := .slice pR (S.length + 1) A);have hi : w.heap.size <= w.heap.size + 3 := by omega
   have x6 := h4.out _ gr;have O := ((x6.setCell (p := ⟨w.heap.size + 3, 0, none⟩) hi (.slice q1 B.length d)).setCell (p := ⟨w.heap.size + 3, 1, none⟩) hi (.slice q8 (U.length + 1) k8)).setCell (p := ⟨w.heap.size + 3, 2, none⟩) hi (.slice pR (S.length + 1) A);have yH := os3 p1 (by decide) c6 (x0 := .slice q1 B.length d) (x1 := .slice q8 (U.length + 1) k8) (x2 := .slice pR (S.length + 1) A);have yI := os3 p2 (by decide) c6 (x0 := .slice q1 B.length d) (x1 := .slice q8 (U.length + 1) k8) (x2 := .slice pR (S.length + 1) A);have zF := dr.kept (gst (gst (gst (grl wr (some (w.heap.size + 3))) 0 (.slice q1 B.length d)) 1 (.slice q8 (U.length + 1) k8)) 2 (.slice pR (S.length + 1) A)) (fun x e s n xs he h => .inr (fun e' => obN h c6 (by rcases he with rfl | rfl <;> decide) e'.symm));obtain ⟨a0, a1, a2⟩ := zk3 kk;rw [zT.out] at zF;refine bodyPost_ret (v := .tuple #[.agg #[.slice q1 B.length d, .slice q8 (U.length + 1) k8, .slice pR (S.length + 1) A], .int .i64 0]) (by simp [results, Tryz.results11, go_sem, a0, a1, a2]) rfl ⟨_, rfl, .inr ⟨x3.out, _, _, _, rfl, FldV.rd yH, ?_, ?_, ?_⟩, O⟩
   ·have h5 := RdC.of_owns yI
    unfold RdS;rw [Int.toNat_natCast, <- y8.out, zm.out];exact h5
   ·rw [zi.out]
    exact zF.v.rd
   ·refine ⟨FldV.base yH hf.size, ?_, ?_⟩
    ·rw [Int.toNat_natCast, <- y8.out, zm.out]
     exact oRb yI hf.size
    ·rw [zi.out]
     exact zF.v.base (Nat.le_trans hf.size yl)
open Go.Shelf
def SrcR (w : World) (x' : Value) (m size : Nat) (news : List Value) : Prop := (x' = .slice none 0 0 /\ m = 0 /\ news = []) \/ ∃ ad c, x' = .slice (some ad) m c /\ news.length = m * size /\ ∀ j u, news[j]? = some u -> w.cell? (ad.add j) = some u
theorem obk {w : World} {base e sz n : Nat} {v : Value} {xs : List Value} (h : w.ownsRow base e sz v n xs) (Q : 0 < n) : ∃ g c, v = .slice (some ⟨g, 0, none⟩) n c /\ base <= g /\ g < w.heap.size /\ n <= c /\ c <= maxLen := by
 rcases h.2 with ⟨_, R⟩ | ⟨g, cap, Z, S, V, U, Y, X, _⟩
 ·omega
 ·exact ⟨g, cap, S, V, (Array.getElem?_eq_some_iff.1 U).1, Y, X⟩
theorem on0 (w : World) (base t : Nat) (Z : base <= w.heap.size) : (w.alloc (.cells #[] t)).ownsRow base t 1 (.slice (some ⟨w.heap.size, 0, none⟩) 0 0) 0 ([] : List Value) := by
 have := World.ownsRow_lit (base := base) (e := t) (size := 1) w #[] 0 Z (by decide) rfl;simpa using this
theorem osc {w : World} {base e size n : Nat} {v : Value} {xs : List Value} (h : w.ownsRow base e size v n xs) : SrcR w v n size xs := by
 rcases h.2 with ⟨rfl, rfl⟩ | ⟨g, cap, Z, rfl, S, R, Y, X, V, U⟩
 ·exact .inl ⟨rfl, rfl, List.eq_nil_of_length_eq_zero (by rw [h.1]; omega)⟩
 ·exact .inr ⟨⟨g, 0, none⟩, cap, rfl, h.1, h.cells rfl⟩
theorem SrcR.below {w w' : World} {x' : Value} {m size : Nat} {news : List Value} (h : SrcR w x' m size news) (U : Below w.heap.size w w') : SrcR w' x' m size news := by
 rcases h with h | ⟨Z, c, X, V, Y⟩
 ·exact .inl h
 ·exact .inr ⟨Z, c, X, V, fun j u hu => (U.cell (p := Z.add j) (World.block_lt_of_cell? w _ (Y j u hu))).trans (Y j u hu)⟩
theorem was {P : Program} (w : World) {o : Oper} {a : Act} {K : Act -> World -> Prop} {Q : Exit -> Act -> World -> Prop} (s x : Operand) (t : TypeId)
 (E : o.op = .call { callee := .builtin .append, args := #[s, x], argTypes := #[t, t] })
 (base : Nat) (e : TypeId) (i : TypeInfo) (z : Value) (size bytes : Nat) (C : P.underlying t = some (.slice e)) (G : P.info? e = some i) (q : i.zero = some z)
 (R : i.size = size) (J : i.bytes = bytes) (H : z.cells.size = size) (I : 0 < size)
 (v : Value) (n : Nat) (M : List Value) (D : a.eval s = v) (Y : w.ownsRow base e size v n M)
 (B : Value) (m : Nat) (Z : List Value) (hx : a.eval x = B) (O : SrcR w B m size Z)
 (y : ∀ u ∈ Z, u.oneCell' = true) (L : n + m <= maxLen) (V : (n + m) * bytes <= 140737488355328) (U : base <= w.heap.size)
 (h : ∀ N w', w'.ownsRow base e size N (n + m) (M ++ Z) -> w.grownBy w' v.ownBlock -> K (a.put o.dst N) w') : Oper.wp P o a w K Q := by
 rcases O with ⟨rfl, rfl, rfl⟩ | ⟨A, c, rfl, r, S⟩
 ·have X := run_append_owned_none (P := P) (w := w) base t o.type e i size C (by rw [G]) v n M Y
  unfold Oper.wp;simp [execOp, E, resolve, invoke, builtin, D, hx, X, Result.andThen];exact h v w (by simpa using Y) (grl _ _)
 ·obtain ⟨N, w', X, p, l, _⟩ := run_append_own (P := P) w base t o.type e i z size bytes C G q R J H I v n M Y A m c Z r S y L V U
  unfold Oper.wp;simp [execOp, E, resolve, invoke, builtin, D, hx, X, Result.andThen];exact h N w' p l
theorem wLa {P : Program} (w : World) {ops : Array Oper} {rest : List Oper} {o : Oper} {a : Act} {Q : Exit -> Act -> World -> Prop} (N : o.guard = none) (s x : Operand) (t : TypeId)
 (G : o.op = .call { callee := .builtin .append, args := #[s, x], argTypes := #[t, t] })
 (base : Nat) (e : TypeId) (i : TypeInfo) (z : Value) (size bytes : Nat) (D : P.underlying t = some (.slice e)) (H : P.info? e = some i) (C : i.zero = some z)
 (V : i.size = size) (O : i.bytes = bytes) (L : z.cells.size = size) (M : 0 < size)
 (v : Value) (n : Nat) (J : List Value) (E : a.eval s = v) (U : w.ownsRow base e size v n J)
 (K : Value) (m : Nat) (Z : List Value) (hx : a.eval x = K) (S : SrcR w K m size Z)
 (I : ∀ u ∈ Z, u.oneCell' = true) (R : n + m <= maxLen) (Y : (n + m) * bytes <= 140737488355328) (X : base <= w.heap.size)
 (h : ∀ v' w', w'.ownsRow base e size v' (n + m) (J ++ Z) -> w.grownBy w' v.ownBlock -> wpList P ops Q rest (a.put o.dst v') w') : wpList P ops Q (o :: rest) a w :=
 wpList_plain N fun _ hK => was w s x t G base e i z size bytes D H C V O L M v n J E U K m Z hx S I R Y X fun v' w' a b => hK _ _ (h v' w' a b)
theorem aps (b o j : Nat) : (⟨b, o, none⟩ : Addr).add j = ⟨b, o + j, none⟩ := by
 simp only [Addr.add];split
 ·rename_i h; subst h; rfl
 ·rfl
theorem spt {w : World} {b o c k m : Nat} {xs : List Value} (S : ∀ j u, xs[j]? = some u -> w.cell? ⟨b, o + j, none⟩ = some u) (R : k + m <= xs.length) (V : Value) (Z : V = .slice (if c = k then some ⟨b, o, none⟩ else some ⟨b, o + k, none⟩) m (c - k)) (Y : c = k -> m = 0) :
 SrcR w V m 1 ((xs.drop k).take m) := by
 have X : ((xs.drop k).take m).length = m * 1 := by rw [List.length_take, List.length_drop]; omega
 by_cases e : c = k
 ·rw [if_pos e] at Z
  refine .inr ⟨_, _, Z, X, fun j u hu => ?_⟩;have U := Y e;subst U;simp at hu
 ·rw [if_neg e] at Z
  refine .inr ⟨_, _, Z, X, fun j u hu => ?_⟩;rw [List.getElem?_take] at hu;split at hu
  ·rw [List.getElem?_drop] at hu
   have := S (k + j) u hu;rw [<- Nat.add_assoc] at this;rw [aps]; exact this
  ·cases hu
theorem shd {w : World} {b o c m : Nat} {xs : List Value} (Z : ∀ j u, xs[j]? = some u -> w.cell? ⟨b, o + j, none⟩ = some u) (Y : m <= xs.length) : SrcR w (.slice (some ⟨b, o, none⟩) m c) m 1 (xs.take m) :=
 .inr ⟨_, _, rfl, by rw [List.length_take]; omega, fun j u hu => by
  rw [List.getElem?_take] at hu;split at hu
  ·rw [aps]; exact Z j u hu
  ·cases hu⟩
section
variable {P : Program} {ops : Array Oper} {Q : Exit -> Act -> World -> Prop} {md : Region.Mode} {S : World -> Prop}
theorem rdy1 (i : Nat) {o : Oper} {k : Nat} {l : Array Bool} {a : Act} {w : World} (h : ∀ K' : Act -> World -> Prop, Shut (∀ a w, S w -> (S w -> wpAnyH P md ops Q S k (l.setIfInBounds i true) a w) -> K' a w) -> if Region.wanted o (yielded ops a.tmps) = true then Oper.wp P o a w K' Q else K' (a.put o.dst undef) w)
 (Z : Region.ready md ops l = [i] := by kernel_rfl) (ho : ops[i]? = some o := by rfl) : wpAnyH P md ops Q S (k + 1) l a w := wpAnyH_ready Z (by simp) (AllReadyH.cons ho h AllReadyH.nil)
theorem rdy2 (i j : Nat) {o o2 : Oper} {k : Nat} {l : Array Bool} {a : Act} {w : World} (h : ∀ K' : Act -> World -> Prop, Shut (∀ a w, S w -> (S w -> wpAnyH P md ops Q S k (l.setIfInBounds i true) a w) -> K' a w) -> if Region.wanted o (yielded ops a.tmps) = true then Oper.wp P o a w K' Q else K' (a.put o.dst undef) w)
 (Z : ∀ K' : Act -> World -> Prop, Shut (∀ a w, S w -> (S w -> wpAnyH P md ops Q S k (l.setIfInBounds j true) a w) -> K' a w) -> if Region.wanted o2 (yielded ops a.tmps) = true then Oper.wp P o2 a w K' Q else K' (a.put o2.dst undef) w)
 (Y : Region.ready md ops l = [i, j] := by kernel_rfl) (ho : ops[i]? = some o := by rfl) (ho2 : ops[j]? = some o2 := by rfl) : wpAnyH P md ops Q S (k + 1) l a w := wpAnyH_ready Y (by simp) (AllReadyH.cons ho h (AllReadyH.cons ho2 Z AllReadyH.nil))
theorem rdy3 (i j n : Nat) {o o2 o3 : Oper} {k : Nat} {l : Array Bool} {a : Act} {w : World} (h : ∀ K' : Act -> World -> Prop, Shut (∀ a w, S w -> (S w -> wpAnyH P md ops Q S k (l.setIfInBounds i true) a w) -> K' a w) -> if Region.wanted o (yielded ops a.tmps) = true then Oper.wp P o a w K' Q else K' (a.put o.dst undef) w)
 (Z : ∀ K' : Act -> World -> Prop, Shut (∀ a w, S w -> (S w -> wpAnyH P md ops Q S k (l.setIfInBounds j true) a w) -> K' a w) -> if Region.wanted o2 (yielded ops a.tmps) = true then Oper.wp P o2 a w K' Q else K' (a.put o2.dst undef) w)
 (Y : ∀ K' : Act -> World -> Prop, Shut (∀ a w, S w -> (S w -> wpAnyH P md ops Q S k (l.setIfInBounds n true) a w) -> K' a w) -> if Region.wanted o3 (yielded ops a.tmps) = true then Oper.wp P o3 a w K' Q else K' (a.put o3.dst undef) w)
 (X : Region.ready md ops l = [i, j, n] := by kernel_rfl) (ho : ops[i]? = some o := by rfl) (ho2 : ops[j]? = some o2 := by rfl) (ho3 : ops[n]? = some o3 := by rfl) : wpAnyH P md ops Q S (k + 1) l a w := wpAnyH_ready X (by simp) (AllReadyH.cons ho h (AllReadyH.cons ho2 Z (AllReadyH.cons ho3 Y AllReadyH.nil)))
end
theorem bAl {w0 w : World} (h : Below w0.heap.size w0 w) (o : Obj) : Below w0.heap.size w0 (w.alloc o) := h.alloc h.size o
theorem appS {w0 w : World} {ops : Array Oper} {o : Oper} {a : Act} {K : Act -> World -> Prop} {Q : Exit -> Act -> World -> Prop} {E : Prop} (s x : Tmp) (X : Below w0.heap.size w0 w) {v : Value} {n : Nat} {xs : List Value} (Z : w.ownsRow w0.heap.size 9 1 v n xs)
 {x' : Value} {m : Nat} {news : List Value} (Y : SrcR w x' m 1 news) (R : ∀ u ∈ news, u.oneCell' = true) (L : n + m <= 1000) (h : ∀ v' w', w'.ownsRow w0.heap.size 9 1 v' (n + m) (xs ++ news) -> Below w0.heap.size w0 w' -> w.grownBy w' v.ownBlock -> K (a.put o.dst v') w')
 (N : o.op = .call { callee := .builtin .append, args := #[.tmp s, .tmp x], argTypes := #[42, 42] } := by rfl) (hgd : o.guard = none := by rfl) (hs : a.eval (.tmp s) = v := by simp [Act.eval]) (hx : a.eval (.tmp x) = x' := by simp [Act.eval]) :
 if Region.wanted o (yielded ops a.tmps) = true then Oper.wp Tryz.prog o a w K Q else E := by
 rw [if_pos (by simp [Region.wanted, hgd])];obtain ⟨M, O, V, U, S⟩ := info_parts iSg;exact was w _ _ 42 N w0.heap.size 9 M (.string ⟨#[]⟩) 1 16 Tryz.underlying42 O V U S rfl (by decide) v n xs hs Z x' m news hx Y R (by unfold maxLen; omega) (by omega) X.size fun v' w' r g => h v' w' r (X.grown g X.size fun j hj => (Z.lt j hj).1) g
theorem appF {w0 w : World} {ops : Array Oper} {o : Oper} {a : Act} {K : Act -> World -> Prop} {Q : Exit -> Act -> World -> Prop} {E : Prop} (s x : Tmp) (X : Below w0.heap.size w0 w) {v : Value} {n : Nat} {xs : List Value} (Z : w.ownsRow w0.heap.size 33 1 v n xs)
 {x' : Value} {m : Nat} {news : List Value} (Y : SrcR w x' m 1 news) (R : ∀ u ∈ news, u.oneCell' = true) (L : n + m <= 1000) (h : ∀ v' w', w'.ownsRow w0.heap.size 33 1 v' (n + m) (xs ++ news) -> Below w0.heap.size w0 w' -> w.grownBy w' v.ownBlock -> K (a.put o.dst v') w')
 (N : o.op = .call { callee := .builtin .append, args := #[.tmp s, .tmp x], argTypes := #[43, 43] } := by rfl) (hgd : o.guard = none := by rfl) (hs : a.eval (.tmp s) = v := by simp [Act.eval]) (hx : a.eval (.tmp x) = x' := by simp [Act.eval]) :
 if Region.wanted o (yielded ops a.tmps) = true then Oper.wp Tryz.prog o a w K Q else E := by
 rw [if_pos (by simp [Region.wanted, hgd])];obtain ⟨M, O, V, U, S⟩ := info_parts iFd;exact was w _ _ 43 N w0.heap.size 33 M (.slice none 0 0) 1 24 Tryz.underlying43 O V U S rfl (by decide) v n xs hs Z x' m news hx Y R (by unfold maxLen; omega) (by omega) X.size fun v' w' r g => h v' w' r (X.grown g X.size fun j hj => (Z.lt j hj).1) g
def FlsU (w : World) (R : Nat) (v : Value) (n : Nat) (S : List (List Rat)) : Prop :=
 S.length = n /\ ∃ us : List Value, us.length = n /\ w.ownsRow R 33 1 v n us /\ ∀ (i : Nat) (u : Value) (F : List Rat), us[i]? = some u -> S[i]? = some F -> FldV w 0 u F
theorem FlsU.below {w w' : World} {R : Nat} {v : Value} {n : Nat} {S : List (List Rat)} (h : FlsU w R v n S) (Z : Below w.heap.size w w') : FlsU w' R v n S := by
 obtain ⟨Y, us, X, V, U⟩ := h;exact ⟨Y, us, X, WRA V Z, fun i u F a b => (U i u F a b).below Z⟩
theorem FlsU.kept {w w' : World} {R b t n : Nat} {v : Value} {l : List Value} {S : List (List Rat)} (h : FlsU w R v n S) (V : w.grownBy w' (some b)) (X : BoxN w b t l) (Q : 33 ≠ t) (O : 55 ≠ t) : FlsU w' R v n S := by
 obtain ⟨U, us, N, Z, Y⟩ := h;exact ⟨U, us, N, World.ownsRow.kept Z V (.inr fun e => obN Z X Q e.symm), fun i u F a c => World.ownsRow.kept (Y i u F a c) V (.inr fun e => obN (Y i u F a c) X O e.symm)⟩
theorem FlsU.rd {w : World} {R n : Nat} {v : Value} {S : List (List Rat)} (h : FlsU w R v n S) : RdF w v S := by
 obtain ⟨Z, us, V, Y, X⟩ := h;subst Z;exact ⟨us, RdC.of_owns Y, fun i u F a b => (X i u F a b).rd⟩
theorem FlsU.shape {w : World} {R n : Nat} {v : Value} {S : List (List Rat)} (h : FlsU w R v n S) : ∃ p c, v = .slice p n c := by
 obtain ⟨Y, us, X, Z, V⟩ := h;exact oRs Z
theorem FlsU.snoc {w w' : World} {R n : Nat} {v v' u : Value} {S : List (List Rat)} {us : List Value} {F : List Rat} (Y : S.length = n) (X : us.length = n) (U : w.ownsRow R 33 1 v n us) (Q : ∀ (i : Nat) (u : Value) (F : List Rat), us[i]? = some u -> S[i]? = some F -> FldV w 0 u F)
 (O : w.grownBy w' v.ownBlock) (Z : w'.ownsRow R 33 1 v' (n + 1) (us ++ [u])) (N : FldV w 0 u F) : FlsU w' R v' (n + 1) (S ++ [F]) := by
 have key : ∀ {x F}, FldV w 0 x F -> FldV w' 0 x F := fun h => World.ownsRow.kept h O (oat h U (by decide))
 refine ⟨by rw [List.length_append, Y]; rfl, us ++ [u], by rw [List.length_append, X]; rfl, Z, fun i x G a b => ?_⟩;rcases Nat.lt_or_ge i n with h | h
 ·rw [List.getElem?_append_left (by omega)] at a
  rw [List.getElem?_append_left (by omega)] at b;exact key (Q i x G a b)
 ·have V := (List.getElem?_eq_some_iff.1 b).1
  rw [List.length_append] at V;obtain rfl : i = n := by simp at V; omega
  rw [List.getElem?_append_right (by omega), Y, Nat.sub_self] at b;rw [List.getElem?_append_right (by omega), X, Nat.sub_self] at a;simp at a b;subst a; subst b;exact key N
theorem box3c {w : World} {b t : Nat} {p q r : Value} (h : BoxN w b t [p, q, r]) : w.cell? ⟨b, 0, none⟩ = some p /\ w.cell? ⟨b, 1, none⟩ = some q /\ w.cell? ⟨b, 2, none⟩ = some r /\ w.frozen? ⟨b, 0, none⟩ = false /\ w.frozen? ⟨b, 1, none⟩ = false /\ w.frozen? ⟨b, 2, none⟩ = false :=
 ⟨h.cell 0 rfl, h.cell 1 rfl, h.cell 2 rfl, h.frozen 0, h.frozen 1, h.frozen 2⟩
theorem endD {w0 w : World} {b n : Nat} {v p q r : Value} {xs : List Value} (X : Below w0.heap.size w0 w) (Z : w0.heap.size <= b) (Y : BoxN w b 45 [p, q, r]) (V : w.ownsRow w0.heap.size 9 1 v n xs) (x y z : Value) :
 BoxN (((w.setCell ⟨b, 0, none⟩ x).setCell ⟨b, 1, none⟩ y).setCell ⟨b, 2, none⟩ z) b 45 [x, y, z] /\ (((w.setCell ⟨b, 0, none⟩ x).setCell ⟨b, 1, none⟩ y).setCell ⟨b, 2, none⟩ z).ownsRow w0.heap.size 9 1 v n xs /\ Below w0.heap.size w0 (((w.setCell ⟨b, 0, none⟩ x).setCell ⟨b, 1, none⟩ y).setCell ⟨b, 2, none⟩ z) := by
 have h := gst (gst (gst (grl w (some b)) 0 x) 1 y) 2 z;exact ⟨((Y.set 0 x).set 1 y).set 2 z, World.ownsRow.kept V h (.inr fun e => obN V Y (by decide) e.symm), X.grown h X.size fun j hj => by cases hj; exact Z⟩
end Go.Proofs.YtmcbeajdloaliaaGreatDoor
namespace Go.Proofs.YtmcbeajdloaliaaGreatDoor
open Go.RowKit Go.Lib Go.Shelf
def eBR (xs : List Rat) (i : Nat) : Array Value := #[.int .i64 (i : Int), .string (RS ((xs[i]?).getD 0))]
abbrev IxR (xs : List Rat) := { i : Nat // i < xs.length }
theorem bb0 (a : Option Addr) (len cap : Nat) (w : World) :
 Calls Tryz.prog 66 #[.slice a len cap] w fun e w' => e = .returned (.func (.func 115) #[] #[.pointer (some ⟨w.heap.size, 0, none⟩)]) /\ w.alloc (.cells #[.slice a len cap] 32) = w' := by
 go_enter Tryz.func66, Tryz.ntmps66;go_wp2;go_ret;exact ⟨rfl, rfl⟩
def Keep3 (n₀ Bm : Nat) (A B : World) : Prop := Below n₀ A B /\ B.heap[Bm]? = A.heap[Bm]? /\ B.heap[Bm + 1]? = A.heap[Bm + 1]? /\ B.heap[Bm + 2]? = A.heap[Bm + 2]?
theorem Keep3.refl (n₀ Bm : Nat) (A : World) : Keep3 n₀ Bm A A := ⟨Below.refl _ _, rfl, rfl, rfl⟩
theorem Keep3.trans {n₀ Bm : Nat} {A B C : World} (h : Keep3 n₀ Bm A B) (k : Keep3 n₀ Bm B C) : Keep3 n₀ Bm A C := ⟨h.1.trans k.1, k.2.1.trans h.2.1, k.2.2.1.trans h.2.2.1, k.2.2.2.trans h.2.2.2⟩
theorem Keep3.of_below {n₀ Bm : Nat} {A B : World} (h : Below A.heap.size A B) (Y : n₀ <= A.heap.size) (Z : Bm + 2 < A.heap.size) : Keep3 n₀ Bm A B := ⟨h.mono Y, h.block _ (by omega), h.block _ (by omega), h.block _ Z⟩
theorem k3b {n₀ Bm : Nat} {w : World} (U : n₀ <= w.heap.size) (S : Bm + 2 < w.heap.size) (W : World) (l : Nat) (o Z : Obj) (V : w.heap.size <= l) (h : W.heap[l]? = some o) (Y : o.isCells = false) (X : o.isWalk = false) : Keep3 n₀ Bm W (W.putObj l Z) :=
 ⟨belowK_b U W l o Z V h Y X, World.putObj_heap_other (by omega), World.putObj_heap_other (by omega), World.putObj_heap_other (by omega)⟩
def encH (H : List Rat) (i : Nat) : Array Value := #[.int .i64 (i : Int), .string (RS ((H[i]?).getD 0))]
theorem hay (m d p : Value) (w : World) (M K N J L : Option Addr) (S Q U O R Y X Z V cs : Nat) (x y : ByteArray) (H : m = .agg #[.slice M S Y, .slice K Q X]) (I : d = .agg #[.slice N U Z, .slice J O V, .slice L R cs]) (G : p = .agg #[.string x, .string y]) :
 Calls Tryz.prog 65 #[m, d, p] w fun e w' => e = .returned (.func (.func 113) #[] #[.pointer (some ⟨w.heap.size + 1, 0, none⟩), .pointer (some ⟨w.heap.size, 0, none⟩), .pointer (some ⟨w.heap.size + 2, 0, none⟩)]) /\
  ((w.alloc (.cells #[.slice M S Y, .slice K Q X] 41)).alloc (.cells #[.slice N U Z, .slice J O V, .slice L R cs] 45)).alloc (.cells #[.string x, .string y] 73) = w' := by
 subst H I G;go_enter Tryz.func65, Tryz.ntmps65;go_wp2;go_ret;exact ⟨rfl, rfl⟩
theorem hC0 (n : Nat) (hn : 1 <= n) (l Bm : Nat) (w0 : World) (hg : Good w0) (f c g b d : Option Addr) (R h X m q p s o cs : Nat) (x y : ByteArray) (H : List Rat) (hH : H.length = X) (hc : X <= 1000) (fp : Nat -> Option Addr) (fc : Nat -> Nat)
 (h1 : Hid (∀ i, i < X -> ∀ w', Below w0.heap.size w0 w' -> Calls Tryz.prog 48 #[.agg #[.slice g R s, .slice b X o, .slice d m cs], .int .i64 (i : Int)] w' (Ret (fun r _ => r = .slice (fp i) R (fc i)) w')))
 (h2 : Hid (∀ i, i < X -> ∀ w', Below w0.heap.size w0 w' -> Good w' -> Calls Tryz.prog 114 #[.agg #[.slice f R q, .slice c h p], .slice (fp i) R (fc i), .agg #[.string x, .string y]] w' (Ret (fun r _ => r = .tuple #[.string (RS ((H[i]?).getD 0)), .int .i64 0]) w')))
 (J Jx : List (IxR H) -> World -> Prop) (W : World) (hJ : AbidesFrom W.heap.size J) (h5 : Below w0.heap.size w0 W)
 (bm : BoxN W Bm 41 [.slice f R q, .slice c h p]) (bd : BoxN W (Bm + 1) 45 [.slice g R s, .slice b X o, .slice d m cs]) (bp : BoxN W (Bm + 2) 73 [.string x, .string y])
 (hY : ∀ pre x W, J pre W -> pre.length < X -> YieldAt Fence.wide (n - 1) Tryz.prog l (encH H x.1) W fun e W' =>
   (e = .returned (.bool true) /\ J (pre ++ [x]) W' /\ Keep3 w0.heap.size Bm W W') \/ (e = .returned (.bool false) /\ Jx (pre ++ [x]) W'))
 (h0 : J [] W) :
 CallsIn Fence.wide n Tryz.prog 113 #[.func (.yield l) #[] #[], .pointer (some ⟨Bm + 1, 0, none⟩), .pointer (some ⟨Bm, 0, none⟩), .pointer (some ⟨Bm + 2, 0, none⟩)] W fun e W' => (∃ v, e = .returned v) /\
  ((∃ ys : List (IxR H), ys.map Subtype.val = List.range X /\ J ys W') \/ (∃ pre : List (IxR H), pre.map Subtype.val = List.range pre.length /\ Jx pre W')) := by
 have k1 := bd.cell 1 rfl;have HH := hid hH;clear hH;refine callsIn_of_wp Tryz.func113 rfl trivial ?_ rfl;simp only [Tryz.ntmps113, List.size_toArray, List.length_cons, List.length_nil, Nat.reduceAdd, Nat.reduceSub, Array.replicate_succ, Array.replicate_zero, List.push_toArray, List.append_toArray, List.nil_append, List.cons_append]
 gi_wp2
 gi_loopw [11] (fun i wr => ∃ k : Nat, k <= X /\ i = .int .i64 (k : Int) /\ (∃ pre : List (IxR H), pre.map Subtype.val = List.range k /\ J pre wr) /\ Keep3 w0.heap.size Bm W wr)
  (fun i _ => (X - RowKit.intOf i).toNat)
 case atStart => exact ⟨0, Nat.zero_le _, rfl, ⟨[], rfl, h0⟩, Keep3.refl _ _ _⟩
 case round =>
  obtain ⟨k, hk, rfl, ⟨pre, V, L⟩, U⟩ := hrel;by_cases hlt : k < X
  ·have hb : (k : Int) < (X : Int) := by omega
   have cm : BoxN wr Bm 41 [.slice f R q, .slice c h p] := U.2.1.trans bm;have cd : BoxN wr (Bm + 1) 45 [.slice g R s, .slice b X o, .slice d m cs] := U.2.2.1.trans bd;have cq : BoxN wr (Bm + 2) 73 [.string x, .string y] := U.2.2.2.trans bp;have Q : Below w0.heap.size w0 wr := h5.trans U.1;obtain ⟨m0, m1⟩ := zk2 cm;obtain ⟨d0, d1, d2⟩ := zk3 cd;obtain ⟨p0, p1⟩ := zk2 cq;have hz := cq.lt;have hd := cd.lt;have he := cm.lt;have A : Good wr.drew := (hg.below Q).drewN 1;have M : Below w0.heap.size w0 wr.drew := Q.trans ((bdN wr 1).mono Q.size);have E := hid (h1.out k hlt);have D := hid (h2.out k hlt);have z : k < H.length := by have := HH.out; omega
   have N : Hid (∀ W, J pre W -> _) := fun W hj => hY pre ⟨k, z⟩ W hj (by have := congrArg List.length V; rw [List.length_map, List.length_range] at this; omega)
   have S : (pre ++ [(⟨k, z⟩ : IxR H)]).map Subtype.val = List.range (k + 1) := by rw [List.range_succ, List.map_append, V]; rfl
   have O := hid S;have a := hid L;dsimp only [encH] at N;generalize RS ((H[k]?).getD 0) = zs at *;clear V S L hY
   gi_wp2
   refine wpIn_wide.2 ?_;go_region_held3 (fun w' => w'.cell? ⟨Bm, 0, none⟩ = some (.slice f R q) /\ w'.cell? ⟨Bm, 1, none⟩ = some (.slice c h p) /\ w'.cell? ⟨Bm + 1, 0, none⟩ = some (.slice g R s) /\ w'.cell? ⟨Bm + 1, 1, none⟩ = some (.slice b X o) /\ w'.cell? ⟨Bm + 1, 2, none⟩ = some (.slice d m cs) /\ w'.cell? ⟨Bm + 2, 0, none⟩ = some (.string x) /\ w'.cell? ⟨Bm + 2, 1, none⟩ = some (.string y))
    (first | exact ⟨m0, m1, d0, d1, d2, p0, p1⟩ | exact ⟨p_1_0, p_1_1, p_1_2, p_1_3, p_1_4, p_1_5, p_1_6⟩ | exact ⟨p_2_0, p_2_1, p_2_2, p_2_3, p_2_4, p_2_5, p_2_6⟩)
    (first
    | (go_at_call 114; refine (D.out _ ((zbt M Z)) I).mono ?_; rintro e G ⟨_, rfl, rfl, Y⟩
       have p_2_0 := zct Y p_1_0;have p_2_1 := zct Y p_1_1;have p_2_2 := zct Y p_1_2;have p_2_3 := zct Y p_1_3;have p_2_4 := zct Y p_1_4;have p_2_5 := zct Y p_1_5;have p_2_6 := zct Y p_1_6;have h9 := Y.size;have h7 := I.below Y)
    | (go_at_call 48; refine (E.out _ M).mono ?_; rintro e ha ⟨_, rfl, rfl, Z⟩
       have p_1_0 := zct Z m0;have p_1_1 := zct Z m1;have p_1_2 := zct Z d0;have p_1_3 := zct Z d1;have p_1_4 := zct Z d2;have p_1_5 := zct Z p0;have p_1_6 := zct Z p1;have h8 : wr.heap.size <= ha.heap.size := Z.size;have I := A.below Z))
   have K : Below wr.heap.size wr G := zbt (zbt (bdN wr 1) Z) Y;have B : wr.grownBy G none := ⟨K.os, K.tape, K.output, K.size, fun j hj _ => K.block j hj⟩;have h3 := hJ _ _ _ _ a.out B (fun r e => by cases e);have t := U.trans (Keep3.of_below (Bm := Bm) K Q.size hz);obtain ⟨fn, tmps, assign, body, hy, hR⟩ := N.out G h3;clear K Z Y h8 h9 I h7 A M E D m0 m1 d0 d1 d2 p0 p1 N B
   gi_wp2
   refine hR.mono ?_;rintro e W3 (⟨rfl, h4, h6⟩ | ⟨rfl, C⟩)
   ·gi_wp2
    go_roundw
    case rel => exact ⟨k + 1, by omega, by go_num, ⟨_, O.out, h4⟩, t.trans h6⟩
    case measure => simp [RowKit.intOf]; omega
   ·gi_wp2
    refine bodyPost_ret (results_none rfl _ _ _) rfl ?_;have hl := congrArg List.length O.out;rw [List.length_map, List.length_range] at hl;exact ⟨⟨_, rfl⟩, .inr ⟨_, by rw [O.out, hl], C⟩⟩
  ·obtain rfl : k = X := by omega
   gi_wp2
   go_end0;exact ⟨⟨_, rfl⟩, .inl ⟨_, V, L⟩⟩
theorem ht0 (n : Nat) (s : 1 <= n) (Bm : Nat) (w0 : World) (t : Good w0) (G D I C E : Option Addr) (Y K Z L S R U Q cs : Nat) (x y : ByteArray) (H : List Rat) (v : H.length = Z) (M : Z <= 1000) (N : Nat -> Option Addr) (O : Nat -> Nat)
 (X : Hid (∀ i, i < Z -> ∀ w', Below w0.heap.size w0 w' -> Calls Tryz.prog 48 #[.agg #[.slice I Y U, .slice C Z Q, .slice E L cs], .int .i64 (i : Int)] w' (Ret (fun r _ => r = .slice (N i) Y (O i)) w')))
 (V : Hid (∀ i, i < Z -> ∀ w', Below w0.heap.size w0 w' -> Good w' -> Calls Tryz.prog 114 #[.agg #[.slice G Y S, .slice D K R], .slice (N i) Y (O i), .agg #[.string x, .string y]] w' (Ret (fun r _ => r = .tuple #[.string (RS ((H[i]?).getD 0)), .int .i64 0]) w')))
 (w : World) (hw : Below w0.heap.size w0 w) (A : BoxN w Bm 41 [.slice G Y S, .slice D K R]) (B : BoxN w (Bm + 1) 45 [.slice I Y U, .slice C Z Q, .slice E L cs]) (z : BoxN w (Bm + 2) 73 [.string x, .string y]) :
 SeqStopsK Fence.wide n Tryz.prog 113 #[.pointer (some ⟨Bm + 1, 0, none⟩), .pointer (some ⟨Bm, 0, none⟩), .pointer (some ⟨Bm + 2, 0, none⟩)] (fun x : IxR H => encH H x.1) (Keep3 w0.heap.size Bm) (fun ys => ys.map Subtype.val = List.range Z) (fun pre => pre.map Subtype.val = List.range pre.length) Z w := fun l J Jx W hW hJ _ hY h0' =>
 hC0 n s l Bm w0 t G D I C E Y K Z L S R U Q cs x y H v M N O X V J Jx W hJ ((zbt hw hW)) (A.bl hW) (B.bl hW) (z.bl hW) hY h0'
theorem cPo (w : World) (s o t n q : Value) (P : List PtQ) (T : List Tri) (k : Nat) (B : List Rat) (U : List ByteArray) (S : List (List Rat)) (h : DepN w s o t n q P T k B U S) (p : PtQ) (z : Rat) (R : SzP 200 p) (E : Sz 200 z) (G : Good w) :
 Calls Tryz.prog 64 #[.agg #[s, o], .agg #[t, n, q], .agg #[.string (RS p.1), .string (RS p.2), .string (RS z)]] w (Ret (fun r _ => r = .int .i64 (if locN P T p T.length = [] then 28 else 0)) w) := by
 have Q : Hid (∀ w', Below w.heap.size w w' -> Good w' -> _) := fun w' hb hg' => sh0 w' _ _ _ _ _ P T k _ U _ (h.below hb).toT hg';rw [h.ok] at Q;have N : Hid (∀ w', Good w' -> _) := fun w' hg' => cVa (RS p.1) (RS p.2) (RS z) (by have := R.1.size (by omega); omega) (by have := R.2.size (by omega); omega) (by have := E.size (by omega); omega) w' hg'
 have v : eNm (allQ [RS p.1, RS p.2, RS z]) = 0 := by
  unfold allQ;simp only [List.all_cons, List.all_nil, Bool.and_true];rw [Rlt, Rlt, Rlt, rQR R.1, rQR R.2, rQR E];rfl
 rw [v] at N;have O : Hid (∀ w', Below w.heap.size w w' -> Good w' -> _) := fun w' hb hg' => cok w' _ _ P T k (h.below hb).p (h.below hb).t h.m p R hg';have A : decide ((0 : Int) < ((locN P T p T.length).length : Int)) = !decide (locN P T p T.length = []) := by
  cases locN P T p T.length with
  | nil => rfl
  | cons a l => simp
 rw [A] at O;have Z : Hid ((if locN P T p T.length = [] then (28 : Int) else 0) = if decide (locN P T p T.length = []) = true then 28 else 0) := by
  unfold Hid;by_cases hl : locN P T p T.length = [] <;> simp [hl]
 rw [Z.out];obtain ⟨D, I, C, H, f, m, d, j, e, cs, rfl, rfl, rfl, rfl, rfl⟩ := h.open;generalize decide (locN P T p T.length = []) = lb at *;generalize RS p.1 = x at *;generalize RS p.2 = y at *;generalize RS z = zz at *;clear h v A Z R E;go_enter Tryz.func64, Tryz.ntmps64;go_wp2_with fail;obtain ⟨W, K⟩ := zex (((w.alloc (.cells #[.slice D P.length I, .slice C T.length H] 41)).alloc (.cells #[.slice f P.length m, .slice d U.length j, .slice e S.length cs] 45)).alloc (.cells #[.string x, .string y, .string zz] 83));have J : Below w.heap.size w W := by rw [K]; exact (((Below.refl _ _).alloc (Nat.le_refl _) _).alloc (by simp) _).alloc (by simp; omega) _
 have M : BoxN W w.heap.size 41 [.slice D P.length I, .slice C T.length H] := by rw [K]; exact ((BoxN.new w #[.slice D P.length I, .slice C T.length H] 41 _ rfl).alloc _).alloc _
 have V : BoxN W (w.heap.size + 2) 83 [.string x, .string y, .string zz] := by rw [K]; exact BoxN.new _ #[.string x, .string y, .string zz] _ _ (by simp)
 rw [<- K];clear K;refine zR (Q.out _ J (G.below J)) fun w1 hb1 => ?_;have Y := zbt J hb1;replace M := M.bl hb1;replace V := V.bl hb1;obtain ⟨v0, v1, v2⟩ := zk3 V;clear hb1 J;go_wp2_with fail;refine zR (N.out _ (G.below Y)) fun w2 hb2 => ?_;have X := zbt Y hb2;replace M := M.bl hb2;replace V := V.bl hb2;clear v0 v1 v2 hb2 Y;obtain ⟨v0, v1⟩ := zk2 V;obtain ⟨i, g⟩ := zk2 M;go_wp2_with fail;refine zR (O.out _ X (G.below X)) fun w3 hb3 => ?_;have L := zbt X hb3;clear v0 v1 i g;cases lb
 ·go_wp2_with fail
  go_ret;exact ⟨_, rfl, rfl, L⟩
 ·go_wp2_with fail
  go_ret;exact ⟨_, rfl, rfl, L⟩
attribute [local go_sem] Oper.semAt_some
def unitL (U : List ByteArray) {H : List Rat} (pre : List (IxR H)) : ByteArray := match pre.getLast? with | some x => U[x.1]?.getD ⟨#[]⟩ | none => ⟨#[]⟩
theorem ub0 (U : List ByteArray) {H : List Rat} (pre : List (IxR H)) (x : IxR H) : unitL U (pre ++ [x]) = U[x.1]?.getD ⟨#[]⟩ := by unfold unitL; simp
def cHH (H : List Rat) (z : Rat) : Nat := (H.takeWhile fun q => decide (q <= z)).length
def uAt (U : List ByteArray) (H : List Rat) (z : Rat) : ByteArray := if cHH H z = 0 then ⟨#[]⟩ else U[cHH H z - 1]?.getD ⟨#[]⟩
theorem cHl (H : List Rat) (z : Rat) : cHH H z <= H.length := (List.takeWhile_prefix _).length_le
theorem cHa {H : List Rat} {z : Rat} (h : ∀ q ∈ H, q <= z) : cHH H z = H.length := by
 unfold cHH
 induction H with
 | nil => rfl
 | cons q H ih =>
   rw [List.takeWhile_cons_of_pos (by simpa using h q (by simp)), List.length_cons, ih (fun x hx => h x (List.mem_cons_of_mem _ hx)), List.length_cons]
theorem cn0 {H : List Rat} {z : Rat} {k : Nat} (V : k < H.length) (h : ∀ i (X : i < k), H[i] <= z) (Y : ¬ H[k] <= z) : cHH H z = k := by
 unfold cHH;have e : H = H.take k ++ H[k] :: H.drop (k + 1) := by rw [<- List.drop_eq_getElem_cons V, List.take_append_drop]
 have U : (H.take k).length = k := by rw [List.length_take]; omega
 have Z : (H.take k ++ H[k] :: H.drop (k + 1)).takeWhile (fun q => decide (q <= z)) = H.take k := by
  rw [List.takeWhile_append_of_pos (fun q hq => by
   obtain ⟨i, X, rfl⟩ := List.getElem_of_mem hq;rw [List.getElem_take];exact decide_eq_true (h i (by omega)))]
  rw [List.takeWhile_cons_of_neg (by simpa using Y), List.append_nil]
 rw [<- e] at Z;rw [Z, U]
theorem uLr {U : List ByteArray} {H : List Rat} {z : Rat} {pre : List (IxR H)} {k : Nat} (X : pre.map Subtype.val = List.range k) (V : cHH H z = k) : unitL U pre = uAt U H z := by
 have S : pre.length = k := by have := congrArg List.length X; rwa [List.length_map, List.length_range] at this
 unfold uAt unitL;rw [V];rcases Nat.eq_zero_or_pos k with Y | Y
 ·subst Y
  rw [List.length_eq_zero_iff.1 S]; rfl
 ·rw [if_neg (by omega)]
  obtain ⟨m, rfl⟩ : ∃ m, k = m + 1 := ⟨k - 1, by omega⟩;have Z : (pre.map Subtype.val).getLast? = some m := by rw [X, List.range_succ]; simp
  rw [List.getLast?_map] at Z;cases hg : pre.getLast? with
  | none => rw [hg] at Z; simp at Z
  | some x => rw [hg] at Z; simp at Z; simp [Z]
theorem bNk {W W' : World} {row : Option Nat} {b t : Nat} {l : List Value} (h : BoxN W b t l) (Z : W.grownBy W' row) (Y : ∀ r, row = some r -> ∃ o : Obj, W.heap[r]? = some o /\ o.isCells = false) : BoxN W' b t l := (grownBy_keeps_cells Z Y h rfl).trans h
end Go.Proofs.YtmcbeajdloaliaaGreatDoor
namespace Go.Proofs.YtmcbeajdloaliaaGreatDoor
open Go.RowKit Go.Lib Go.Shelf
attribute [local go_sem] Oper.semAt_some
theorem uAn {U : List ByteArray} {H : List Rat} {z : Rat} (V : H.length = U.length) (Y : ∀ u ∈ U, u ≠ ⟨#[]⟩) : (uAt U H z).toList.isEmpty = decide (cHH H z = 0) := by
 unfold uAt;by_cases h : cHH H z = 0
 ·rw [if_pos h, decide_eq_true h, btL]; rfl
 ·have S := cHl H z
  have Z : cHH H z - 1 < U.length := by omega
  have X := Y _ (List.getElem_mem Z);rw [if_neg h, decide_eq_false h, List.getElem?_eq_getElem Z, Option.getD_some, btL];generalize U[cHH H z - 1] = u at *;obtain ⟨a⟩ := u;cases ha : a.toList with
  | nil =>
    exfalso;apply X;have : a = #[] := Array.toList_eq_nil_iff.1 ha;rw [this]
  | cons b l => rfl
theorem at_in (n : Nat) (hn : 6 <= n) (w : World) (hg : Good w) (pp pt a v ps : Option Addr) (V nt b cp ct t C cs : Nat) (x y : ByteArray) (z : Rat) (U : List ByteArray) (H : List Rat) (hH : H.length = U.length) (hQ : U.length <= 1000) (hp : ∀ u ∈ U, u ≠ ⟨#[]⟩) (hU : RdS w (.slice v U.length C) U)
 (k : Nat) (hk : 0 < k) (hX : k <= 20000) (ho : ∀ q ∈ H, Sz k q) (hz : Sz k z) (fp : Nat -> Option Addr) (fc : Nat -> Nat)
 (hA : Hid (∀ w', Below w.heap.size w w' -> Good w' -> Calls Tryz.prog 64 #[.agg #[.slice pp V cp, .slice pt nt ct], .agg #[.slice a V t, .slice v U.length C, .slice ps b cs], .agg #[.string x, .string y, .string (RS z)]] w' (Ret (fun r _ => r = .int .i64 0) w')))
 (hG : Hid (∀ i, i < U.length -> ∀ w', Below w.heap.size w w' -> Calls Tryz.prog 48 #[.agg #[.slice a V t, .slice v U.length C, .slice ps b cs], .int .i64 (i : Int)] w' (Ret (fun r _ => r = .slice (fp i) V (fc i)) w')))
 (hL : Hid (∀ i, i < U.length -> ∀ w', Below w.heap.size w w' -> Good w' -> Calls Tryz.prog 114 #[.agg #[.slice pp V cp, .slice pt nt ct], .slice (fp i) V (fc i), .agg #[.string x, .string y]] w' (Ret (fun r _ => r = .tuple #[.string (RS ((H[i]?).getD 0)), .int .i64 0]) w'))) :
 CallsIn Fence.wide n Tryz.prog 30 #[.agg #[.slice pp V cp, .slice pt nt ct], .agg #[.slice a V t, .slice v U.length C, .slice ps b cs], .agg #[.string x, .string y, .string (RS z)]] w (Ret (fun r _ => r = .tuple #[.string (uAt U H z), .bool (decide (cHH H z = 0)), .int .i64 0]) w) := by
 have h1 : 1 <= n := by omega
 have HU := hid hU;have hf := hid hp;have hC := hid ho;have hN := hid hz;have I := hid hH;clear hU hp ho hz hH;refine callsIn_of_wp_marks Tryz.func30 rfl trivial ?_ rfl;simp only [Tryz.ntmps30, List.size_toArray, List.length_cons, List.length_nil, Nat.reduceAdd, Nat.reduceSub, Array.replicate_succ, Array.replicate_zero, List.push_toArray, List.append_toArray, List.nil_append, List.cons_append];gi_wp2_with fail;obtain ⟨W, hW⟩ := zex ((((w.alloc (.cells #[.slice pp V cp, .slice pt nt ct] 41)).alloc (.cells #[.slice a V t, .slice v U.length C, .slice ps b cs] 45)).alloc (.cells #[.string x, .string y, .string (RS z)] 83)).alloc (.cells #[.string ⟨#[]⟩] 9));have hB : Below w.heap.size w W := by rw [hW]; exact ((((Below.refl _ _).alloc (Nat.le_refl _) _).alloc (by simp) _).alloc (by simp; omega) _).alloc (by simp; omega) _
 have b3 : BoxN W w.heap.size 41 [.slice pp V cp, .slice pt nt ct] := by rw [hW]; exact (((BoxN.new w #[.slice pp V cp, .slice pt nt ct] 41 _ rfl).alloc _).alloc _).alloc _
 have b4 : BoxN W (w.heap.size + 1) 45 [.slice a V t, .slice v U.length C, .slice ps b cs] := by rw [hW]; exact ((BoxN.new _ #[.slice a V t, .slice v U.length C, .slice ps b cs] _ _ (by simp)).alloc _).alloc _
 have b5 : BoxN W (w.heap.size + 2) 83 [.string x, .string y, .string (RS z)] := by rw [hW]; exact (BoxN.new _ #[.string x, .string y, .string (RS z)] _ _ (by simp)).alloc _
 have b6 : BoxN W (w.heap.size + 3) 9 [.string ⟨#[]⟩] := by rw [hW]; exact BoxN.new _ #[.string ⟨#[]⟩] _ _ (by simp)
 rw [<- hW];clear hW;refine ⟨trivial, ?_⟩;refine CallsIn.mono (callsIn_wide.2 (hA.out W hB (hg.below hB))) ?_;rintro e w1 ⟨_, rfl, rfl, G⟩;have hP := zbt hB G;replace b3 := b3.bl G;replace b4 := b4.bl G;replace b5 := b5.bl G;replace b6 := b6.bl G;clear G hB;obtain ⟨m0, m1⟩ := zk2 b3;obtain ⟨d0, d1, d2⟩ := zk3 b4;obtain ⟨v0, v1⟩ := zk2 b5;have z9 := b6.lt;gi_wp2_with fail;refine ⟨trivial, ?_⟩;refine CallsIn.mono (callsIn_wide.2 (hay _ _ _ _ pp pt a v ps V nt V U.length b cp ct t C cs x y rfl rfl rfl)) ?_;rintro e w2 ⟨rfl, f⟩;have c1 : BoxN w2 w1.heap.size 41 [.slice pp V cp, .slice pt nt ct] := by rw [<- f]; exact ((BoxN.new w1 #[.slice pp V cp, .slice pt nt ct] _ _ rfl).alloc _).alloc _
 have c2 : BoxN w2 (w1.heap.size + 1) 45 [.slice a V t, .slice v U.length C, .slice ps b cs] := by rw [<- f]; exact (BoxN.new _ #[.slice a V t, .slice v U.length C, .slice ps b cs] _ _ (by simp)).alloc _
 have c3 : BoxN w2 (w1.heap.size + 2) 73 [.string x, .string y] := by rw [<- f]; exact BoxN.new _ #[.string x, .string y] _ _ (by simp)
 have R : Below w1.heap.size w1 w2 := by rw [<- f]; exact (((Below.refl _ _).alloc (Nat.le_refl _) _).alloc (by simp) _).alloc (by simp; omega) _
 have o := zbt hP R;replace b4 := b4.bl R;replace b5 := b5.bl R;replace b6 := b6.bl R;have za : w1.heap.size + 3 <= w2.heap.size := by have := c3.lt; omega
 clear f R b3 m0 m1 d0 d1 d2 v0 v1;gi_wp2_with fail;refine wpIn_rangeFunc_ownF rfl h1 (gf := 113) (lb := #[.pointer (some ⟨w1.heap.size + 1, 0, none⟩), .pointer (some ⟨w1.heap.size, 0, none⟩), .pointer (some ⟨w1.heap.size + 2, 0, none⟩)]) rfl trivial (enters_of Tryz.func113 (by kernel_rfl) rfl)
  (ht0 (n - 1) (by omega) w1.heap.size w hg pp pt a v ps V nt U.length b cp ct t C cs x y H I.out hQ fp fc hG hL w2 o c1 c2 c3) (fun h k => Keep3.trans h k) (k3b (by have := o.size; omega) (by omega)) (Below.refl _ _) (fun _ => rfl)
  (fun (pre : List (IxR H)) W => (BoxN W (w.heap.size + 1) 45 [.slice a V t, .slice v U.length C, .slice ps b cs] /\ BoxN W (w.heap.size + 2) 83 [.string x, .string y, .string (RS z)] /\ BoxN W (w.heap.size + 3) 9 [.string (unitL U pre)] /\ Hid (∀ q ∈ pre, H[q.1]'(q.2) <= z) /\ w2.heap.size <= W.heap.size) /\ Below w.heap.size w W)
  (fun c (pre : List (IxR H)) W => (∃ Z q, c = .exit 0 /\ pre = Z ++ [q] /\ w2.heap.size <= W.heap.size /\ BoxN W (w.heap.size + 3) 9 [.string (unitL U Z)] /\ Hid ((∀ q ∈ Z, H[q.1]'(q.2) <= z) /\ ¬ H[q.1]'(q.2) <= z)) /\ Below w.heap.size w W)
  (OwnFrom.and (Own.from (fun s A B row hs hg' hr => ⟨bNk hs.1 hg' hr, bNk hs.2.1 hg' hr, bNk hs.2.2.1 hg' hr, hs.2.2.2.1, Nat.le_trans hs.2.2.2.2 hg'.size⟩) _) (ownFrom_below (Nat.le_refl _) (by have := o.size; omega)))
  ?hIx
  ⟨⟨b4, b5, b6, fun q hq => absurd hq List.not_mem_nil, Nat.le_refl _⟩, o⟩
  ?a1 ?assign ?body ?done ?stop
 case hIx =>
  intro c;exact OwnFrom.and (Own.from (fun s A B row hs hg' hr => by obtain ⟨Z, q, e0, e1, e4, e2, e3⟩ := hs; exact ⟨Z, q, e0, e1, Nat.le_trans e4 hg'.size, bNk e2 hg' hr, e3⟩) _) (ownFrom_below (Nat.le_refl _) (by have := o.size; omega))
 case assign =>
  intro l x W K hK;dsimp only [encH]
  gi_wp2
  exact hK
 case body =>
  rintro l pre X W ⟨⟨c4, c5, N, HJ, d⟩, Q⟩ z7;have ht := X.2;have h2 : (H[X.1]?).getD 0 = H[X.1] := by rw [List.getElem?_eq_getElem ht]; rfl
  have he : Hid (∀ w', Good w' -> _) := fun w' hg' => rCa H[X.1] z k hk hX (hC.out _ (List.getElem_mem ht)) hN.out w' hg';rw [h2];generalize RS H[X.1] = hstr at *;have v2 := c5.cell 2 rfl;have hV := hg.below Q;have zc := N.lt;gi_wp2_with fail;refine ⟨trivial, by intro; omega, ?_⟩;refine CallsIn.mono (CallsIn.inRound l (callsIn_wide.2 (he.out W hV))) ?_;rintro e w3 ⟨_, rfl, rfl, S⟩;have M := zbt Q S;have hO := c4.bl S;have z2 := c5.bl S;have h0 := N.bl S;have h4 := ka0 S;clear v2 he h2;by_cases hle : H[X.1] <= z
  ·have hb := cQl hle
   have hT : decide (0 < cmpQ H[X.1] z) = false := decide_eq_false (by omega);have z4 : ¬ (0 < cmpQ H[X.1] z) := by omega
   have hF : Hid (∀ q ∈ pre ++ [X], H[q.1]'(q.2) <= z) := fun q hq => by
    rcases List.mem_append.1 hq with h5 | h5
    ·exact HJ.out q h5
    ·rw [List.mem_singleton] at h5; subst h5; exact hle
   have hw := ub0 U pre X;have hJ := hid hw;generalize cmpQ H[X.1] z = cz at *;have h3 : X.1 < U.length := by have := I.out; omega
   obtain ⟨bu, ou, z3, hY, hS, z5, L⟩ := HU.out.cells (by omega);injection hY with hv1 hv2 hv3
   subst hv1 hv3;have x0 := zcq M hS (L X.1 h3);have O : U[X.1]?.getD ⟨#[]⟩ = U[X.1] := by rw [List.getElem?_eq_getElem h3]; rfl
   have hh := hid O;generalize U[X.1] = un at *;have z6 : (X.1 : Int) < (U.length : Int) := by omega
   have d1 := hO.cell 1 rfl;have u0 := h0.cell 0 rfl;have zd := h0.frozen 0;clear L O hw hle hb;generalize hu : X.1 = jx at *;have z1 := hid hu;clear hu;gi_wp2_with fail;have zb := M.size;have z8 := S.size;have Y : ∀ j, j < W.heap.size -> j ≠ w.heap.size + 3 -> (w3.setCell ⟨w.heap.size + 3, 0, none⟩ (.string un)).heap[j]? = W.heap[j]? := fun j hj m => (Below.heap_setCell _ _ _ j (fun e => m e)).trans (S.block j hj);have hR : Below w.heap.size W (w3.setCell ⟨w.heap.size + 3, 0, none⟩ (.string un)) := (S.mono Q.size).setCell (p := ⟨w.heap.size + 3, 0, none⟩) (by show w.heap.size <= w.heap.size + 3; omega) _;refine ⟨h4.trans (KeepsOthers.setCell _ _ _), ⟨hR, Y _ (by omega) (by omega), Y _ (by omega) (by omega), Y _ (by omega) (by omega)⟩, ⟨⟨(Y _ (by have := c4.lt; omega) (by omega)).trans c4, (Y _ (by have := c5.lt; omega) (by omega)).trans c5, ?_, hF, by simp; omega⟩, M.setCell (p := ⟨w.heap.size + 3, 0, none⟩) (by show w.heap.size <= w.heap.size + 3; omega) _⟩⟩;rw [hJ.out, hh.out];exact h0.set 0 (.string un)
  ·have hb : 0 < cmpQ H[X.1] z := (cQp _ _).2 (Rat.not_le.1 hle)
   have hT : decide (0 < cmpQ H[X.1] z) = true := decide_eq_true hb;have hM : Hid ((∀ q ∈ pre, H[q.1]'(q.2) <= z) /\ ¬ H[X.1] <= z) := ⟨HJ.out, hle⟩;generalize cmpQ H[X.1] z = cz at *;gi_wp2_with fail;exact ⟨h4, ⟨pre, X, rfl, rfl, Nat.le_trans d S.size, h0, hM⟩, M⟩
 case done =>
  rintro D ys W hD hx ⟨⟨_, _, N, HJ, d⟩, Q⟩ hK;have J : cHH H z = U.length := by
   rw [<- I.out];refine cHa fun q hq => ?_;obtain ⟨i, hi, rfl⟩ := List.getElem_of_mem hq;have hm : i ∈ ys.map Subtype.val := by rw [hx]; exact List.mem_range.2 (by have := I.out; omega)
   obtain ⟨y, hy, rfl⟩ := List.mem_map.1 hm;exact HJ.out y hy
  have O := uLr (U := U) hx J;rw [O] at N;have h6 := hid (uAn (z := z) I.out hf.out);have x0 := N.cell 0 rfl;have z0 := N.frozen 0;have hZ := N.lt;generalize g : uAt U H z = un at *;have h7 := hid g;clear g;gi_wp2_with fail;have m : D ≠ w.heap.size + 3 := by omega
  have h9 : (W.setCell ⟨w.heap.size + 3, 0, none⟩ (.string un)).heap[D]? = some (.deferred (some [])) := by
   rw [Below.heap_setCell _ _ _ D m];exact hK
  have h8 := Q.setCell (p := ⟨w.heap.size + 3, 0, none⟩) (by show w.heap.size <= w.heap.size + 3; omega) (.string un);have r6 := N.set 0 (.string un);have hc := r6.lt;refine lms (B := w2.heap.size) ⟨[D], rfl, (by simp), fun E hE => by rw [List.mem_singleton] at hE; subst hE; exact ⟨hD, h9⟩⟩ fun w' hw' => ?_
  have q6 : BoxN w' (w.heap.size + 3) 9 [.string un] := (hw'.block _ (.inl (by omega)) hc).trans r6;have k0 := q6.cell 0 rfl;refine ⟨.tuple #[.string un, .bool un.toList.isEmpty, .int .i64 0], by simp [results, Tryz.results30, go_sem, k0], ?_⟩;refine ⟨_, rfl, by show _ = _; rw [h7.out, h6.out], h8.trans ((hw'.below (by simpa using d)).mono (by omega))⟩
 case stop =>
  rintro D c pre W hD ha ⟨⟨Z, q, rfl, rfl, d, N, HX⟩, Q⟩ hK;have hl : (Z ++ [q]).length = Z.length + 1 := by simp
  rw [hl, List.range_succ, List.map_append] at ha;obtain ⟨hd, hv⟩ := List.append_inj ha (by simp);have hq : q.1 = Z.length := by simpa using hv
  have J : cHH H z = Z.length := by
   refine cn0 (by have := q.2; omega) (fun i hi => ?_) ?_
   ·have hm : i ∈ Z.map Subtype.val := by rw [hd]; exact List.mem_range.2 hi
    obtain ⟨y, hy, rfl⟩ := List.mem_map.1 hm;exact HX.out.1 y hy
   ·have := HX.out.2
    simpa only [hq] using this
  have O := uLr (U := U) hd J;rw [O] at N;clear ha hd hv hl J O;have h6 := hid (uAn (z := z) I.out hf.out);have x0 := N.cell 0 rfl;have z0 := N.frozen 0;have hZ := N.lt;generalize g : uAt U H z = un at *;have h7 := hid g;clear g;gi_wp2_with fail;have m : D ≠ w.heap.size + 3 := by omega
  have h9 : (W.setCell ⟨w.heap.size + 3, 0, none⟩ (.string un)).heap[D]? = some (.deferred (some [])) := by
   rw [Below.heap_setCell _ _ _ D m];exact hK
  have h8 := Q.setCell (p := ⟨w.heap.size + 3, 0, none⟩) (by show w.heap.size <= w.heap.size + 3; omega) (.string un);have r6 := N.set 0 (.string un);have hc := r6.lt;refine lms (B := w2.heap.size) ⟨[D], rfl, (by simp), fun E hE => by rw [List.mem_singleton] at hE; subst hE; exact ⟨hD, h9⟩⟩ fun w' hw' => ?_
  have q6 : BoxN w' (w.heap.size + 3) 9 [.string un] := (hw'.block _ (.inl (by omega)) hc).trans r6;have k0 := q6.cell 0 rfl;refine ⟨.tuple #[.string un, .bool un.toList.isEmpty, .int .i64 0], by simp [results, Tryz.results30, go_sem, k0], ?_⟩;refine ⟨_, rfl, by show _ = _; rw [h7.out, h6.out], h8.trans ((hw'.below (by simpa using d)).mono (by omega))⟩
theorem at_ok (w : World) (o : Good w) (M K N X L : Option Addr) (Z O Q S R V Y cs : Nat) (x y : ByteArray) (z : Rat) (U : List ByteArray) (H : List Rat) (s : H.length = U.length) (B : U.length <= 1000) (A : ∀ u ∈ U, u ≠ ⟨#[]⟩) (p : RdS w (.slice X U.length Y) U)
 (k : Nat) (n : 0 < k) (v : k <= 20000) (C : ∀ q ∈ H, Sz k q) (t : Sz k z) (D : Nat -> Option Addr) (E : Nat -> Nat)
 (J : Hid (∀ w', Below w.heap.size w w' -> Good w' -> Calls Tryz.prog 64 #[.agg #[.slice M Z S, .slice K O R], .agg #[.slice N Z V, .slice X U.length Y, .slice L Q cs], .agg #[.string x, .string y, .string (RS z)]] w' (Ret (fun r _ => r = .int .i64 0) w')))
 (I : Hid (∀ i, i < U.length -> ∀ w', Below w.heap.size w w' -> Calls Tryz.prog 48 #[.agg #[.slice N Z V, .slice X U.length Y, .slice L Q cs], .int .i64 (i : Int)] w' (Ret (fun r _ => r = .slice (D i) Z (E i)) w')))
 (G : Hid (∀ i, i < U.length -> ∀ w', Below w.heap.size w w' -> Good w' -> Calls Tryz.prog 114 #[.agg #[.slice M Z S, .slice K O R], .slice (D i) Z (E i), .agg #[.string x, .string y]] w' (Ret (fun r _ => r = .tuple #[.string (RS ((H[i]?).getD 0)), .int .i64 0]) w'))) :
 Calls Tryz.prog 30 #[.agg #[.slice M Z S, .slice K O R], .agg #[.slice N Z V, .slice X U.length Y, .slice L Q cs], .agg #[.string x, .string y, .string (RS z)]] w (Ret (fun r _ => r = .tuple #[.string (uAt U H z), .bool (decide (cHH H z = 0)), .int .i64 0]) w) :=
 callsIn_wide.1 (at_in 6 (by omega) w o M K N X L Z O Q S R V Y cs x y z U H s B A p k n v C t D E J I G)
end Go.Proofs.YtmcbeajdloaliaaGreatDoor
