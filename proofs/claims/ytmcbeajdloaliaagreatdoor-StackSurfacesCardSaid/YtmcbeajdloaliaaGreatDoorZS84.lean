import Derived.Test.YtmcbeajdloaliaaGreatDoorZS48
/- klippelaw28.StackSurfaces. -/
set_option maxHeartbeats 8000000
set_option maxRecDepth 100000
namespace Go.Proofs.YtmcbeajdloaliaaGreatDoor
open Go.RowKit Go.Lib Go.Shelf
theorem sPt (k : Nat) : 2 <= (sPP k).length := by unfold sPP; split <;> decide
theorem so0 (k : Nat) : (sTT k).length <= 8 := by unfold sTT; split <;> decide
theorem pIf {P : List PtQ} (h : ∀ p ∈ P, FrP 2 26 p) (z : Int) : FrP 2 26 (ptI P z) := by
 unfold ptI;cases h1 : P[z.toNat]? with
 | none => exact ⟨Fr.zero _ _, Fr.zero _ _⟩
 | some p => exact h p (List.mem_of_getElem? h1)
theorem pIs {P : List PtQ} {m : Nat} (h : ∀ p ∈ P, SzP m p) (Z : 0 < m) (z : Int) : SzP m (ptI P z) := by
 unfold ptI;cases h1 : P[z.toNat]? with
 | none => exact ⟨Sz.zero _ Z, Sz.zero _ Z⟩
 | some p => exact h p (List.mem_of_getElem? h1)
theorem pLm (F G : List Rat) (i : Nat) : ∀ n, i <= n -> ∃ l, pinL F G n = pinL F G i ++ l
 | 0, h => by
   have e : i = 0 := by omega
   exact ⟨[], by rw [e, List.append_nil]⟩
 | n + 1, h => by
   by_cases e : i = n + 1
   ·exact ⟨[], by rw [e, List.append_nil]⟩
   ·obtain ⟨l, Z⟩ := pLm F G i n (by omega)
    by_cases c : hI F n = hI G n
    ·exact ⟨l ++ [n], by rw [pinL, if_pos c, Z, List.append_assoc]⟩
    ·exact ⟨l, by rw [pinL, if_neg c, Z]⟩
theorem pLa {F G : List Rat} {i n : Nat} (h : i < n) (Y : hI F i = hI G i) : (pinL F G i).length < (pinL F G n).length /\ (pinL F G n)[(pinL F G i).length]? = some i := by
 obtain ⟨l, Z⟩ := pLm F G (i + 1) n h;rw [pinL, if_pos Y] at Z;rw [Z];refine ⟨by simp <;> omega, ?_⟩;rw [List.append_assoc, List.getElem?_append_right (Nat.le_refl _), Nat.sub_self];rfl
theorem fus (n k : Nat) (Y : n <= 3) (Z : k <= n) : findE (uTo (n + 1)) n (nameU k) = (if k = n then 21 else 0) /\ idxS (uTo (n + 1)) (nameU k) = (k : Int) /\ findE (uTo (n + 1)) n ⟨#[120]⟩ = 10 /\ findE (uTo (n + 1)) n ⟨#[]⟩ = 10 /\ findE (uTo (n + 1)) n ⟨#[117, 57]⟩ = 10 := by
 rcases (by omega : n = 0 \/ n = 1 \/ n = 2 \/ n = 3) with rfl | rfl | rfl | rfl <;> rcases (by omega : k = 0 \/ k = 1 \/ k = 2 \/ k = 3) with rfl | rfl | rfl | rfl <;> first | omega | (refine ⟨?_, ?_, ?_, ?_, ?_⟩ <;> decide +kernel)
theorem hI_fr {F : List Rat} {d B : Nat} (h : ∀ q ∈ F, Fr d B q) (z : Int) : Fr d B (hI F z) := by
 unfold hI;cases h1 : F[z.toNat]? with
 | none => exact Fr.zero _ _
 | some p => exact h p (List.mem_of_getElem? h1)
theorem sf3 {q : Rat} (h : Fr 2 304 q) : Sz 3 q := by
 obtain ⟨n, Z, Y⟩ := h;exact sod (n := 2) (m := n) (by decide) (by omega) (by decide) (by rw [<- Z]; rfl)
theorem uTa {n k : Nat} (Z : k <= n) : (uTo (n + 1))[k]? = some (nameU k) := by
 unfold uTo;rw [List.getElem?_map, List.getElem?_range (by omega)]; rfl
theorem sSa (w : World) (kz s0 s1 : Int) (hy : Bool) (a0 a1 a2 a3 a4 a5 : Int) (ah : Bool) (vh : Value) (H : List StepQ) (nz : Int)
 (x4 : 0 <= kz) (zv : kz <= 255) (vs : -128 <= s0 /\ s0 <= 127) (vt : -128 <= s1 /\ s1 <= 127) (ha : ∀ x ∈ [a0, a1, a2, a3, a4, a5], -128 <= x /\ x <= 127) (hH : RdSt w vh H) (jy : -9223372036854775808 <= nz /\ nz <= 9223372036854775807) (hg : Good w) :
 Calls Tryz.prog 4 #[.agg #[.int .u8 kz, .int .i8 s0, .int .i8 s1, .bool hy, .int .i8 a0, .int .i8 a1, .int .i8 a2, .int .i8 a3, .int .i8 a4, .int .i8 a5, .bool ah, vh], .int .i64 nz] w (Ret (fun r _ => r = .bool true) w) := by
 obtain ⟨kk, vd⟩ : ∃ k : Nat, kz.tmod 8 = (k : Int) := ⟨(kz.tmod 8).toNat, by have := Int.tmod_nonneg 8 x4; omega⟩;have yz : Hid (H.length <= 3 -> ∀ w', Below w.heap.size w w' -> Good w' -> _) := fun h3 w' hbw hg => m2o w' kz s0 s1 hy kk vd x4 zv vs vt a0 a1 a2 a3 a4 a5 ah ha vh H (hH.below hbw) h3 hg;obtain ⟨p1, c1, rfl, jo, jp, -⟩ := hH.1;unfold maxLen at jp;clear hH ha x4 zv vs vt vd;obtain ⟨N, vl⟩ : ∃ n, n = H.length := ⟨_, rfl⟩;rw [<- vl] at jo yz ⊢;clear vl;have yF : Hid (∀ w', _) := fun w' => fm0 w' kz s0 s1 hy a0 a1 a2 a3 a4 a5 ah p1 N c1 (by omega)
 obtain ⟨f1, zL⟩ : ∃ f, f = decide (N <= 3) := ⟨_, rfl⟩;rw [<- zL] at yF;have vN : Hid (f1 = true -> N <= 3) := fun h => of_decide_eq_true (zL.symm.trans h);clear zL;go_enter Tryz.func4, Tryz.ntmps4;go_wp2_with fail;obtain ⟨W, hW⟩ := zex (w.alloc (.cells #[.int .u8 kz, .int .i8 s0, .int .i8 s1, .bool hy, .int .i8 a0, .int .i8 a1, .int .i8 a2, .int .i8 a3, .int .i8 a4, .int .i8 a5, .bool ah, .slice p1 N c1] 31));have hB : Below w.heap.size w W := by rw [hW]; exact zal _ _
 have bx : BoxN W w.heap.size 31 [.int .u8 kz, .int .i8 s0, .int .i8 s1, .bool hy, .int .i8 a0, .int .i8 a1, .int .i8 a2, .int .i8 a3, .int .i8 a4, .int .i8 a5, .bool ah, .slice p1 N c1] := by
  rw [hW];exact BoxN.new w #[.int .u8 kz, .int .i8 s0, .int .i8 s1, .bool hy, .int .i8 a0, .int .i8 a1, .int .i8 a2, .int .i8 a3, .int .i8 a4, .int .i8 a5, .bool ah, .slice p1 N c1] 31 _ rfl
 rw [<- hW];clear hW;refine zR (k2a W (hg.below hB)) fun o1 hb1 => ?_;have xI := zbt hB hb1;have yO := bx.bl hb1;clear hb1 hB bx;obtain ⟨k0, k1, k2, k3, k4, k5, k6, k7, k8, k9, xf, xg⟩ := zk12 yO;go_wp2_with fail;refine zR (yF.out o1) fun o3 hb2 => ?_;have zu := zbt xI hb2;have xE := yO.bl hb2;clear hb2 xI yO k0 k1 k2 k3 k4 k5 k6 k7 k8 k9 xf xg yF;cases zL : f1
 ·go_wp2_with fail
  refine zR (k2a o3 (hg.below zu)) fun o4 yi => ?_;go_wp2_with fail;go_ret;exact ⟨_, rfl, rfl, (zbt zu yi)⟩
 obtain ⟨k0, k1, k2, k3, k4, k5, k6, k7, k8, k9, xf, xg⟩ := zk12 xE;go_wp2_with fail;refine (yz.out (vN.out zL) o3 zu (hg.below zu)).mono ?_;rintro e o4 ⟨_, rfl, ⟨pp, cp, pt, ct, pb, cb, pu, cu, ps, cs, P, T, B, H0, U, n, rfl, hP, hT, jx, xN, jj, hD, xW, yT⟩, yi⟩;have xJ := zbt zu yi;clear yi zu xE k0 k1 k2 k3 k4 k5 k6 k7 k8 k9 xf xg yz;subst jj;have yA : Hid (2 <= P.length) := by unfold Hid; rw [hP, sd0]; exact sPt kk
 have xV : ∀ z : Int, FrP 2 26 (ptI P z) := pIf (by rw [hP]; exact fk0 kk s0 s1 hy);have kc : T.length <= 8 := by rw [hT]; exact so0 kk
 have vO := hid xV;clear xV;have vm : MeshOK P T 2 := by rw [hP, hT]; exact sm0 kk s0 s1 hy
 have jZ : P.length <= 6 := by rw [hP, sd0]; exact sf0 kk
 have jA := hD.m.plen;have zf : (uTo (n + 1)).length = n + 1 := uTl _;rw [zf] at hD ⊢;have HD := hid hD;have yx := hid xW;have xr := hid vm;have vG := hid xN;clear hD xW vm hP hT xN zf jA;go_upto_region 4 with fail;obtain ⟨o5, zQ⟩ : ∃ W, W = (o4.alloc (.cells #[.slice pp P.length cp, .slice pt T.length ct] 41)).alloc (.cells #[.slice pb P.length cb, .slice pu (n + 1) cu, .slice ps n cs] 45) := ⟨_, rfl⟩;have y9 : Below o4.heap.size o4 o5 := by rw [zQ]; exact zal2 _ _ _
 obtain ⟨g6, x0⟩ : ∃ g, g = o4.heap.size := ⟨_, rfl⟩;obtain ⟨g7, x3⟩ : ∃ g, g = o4.heap.size + 1 := ⟨_, rfl⟩;have cM : BoxN o5 g6 41 [.slice pp P.length cp, .slice pt T.length ct] := by rw [zQ]; exact (BoxN.new _ _ _ _ x0.symm).alloc _
 have cD : BoxN o5 g7 45 [.slice pb P.length cb, .slice pu (n + 1) cu, .slice ps n cs] := by rw [zQ]; exact BoxN.new _ _ _ _ (by simp [x3])
 have xK := zbt xJ y9;rw [<- zQ, <- x3, <- x0];clear zQ x0 x3;obtain ⟨SF, yh⟩ : ∃ S, S = sTo P.length B H0 n := ⟨_, rfl⟩;have Q : Hid (SF.length = n) := by unfold Hid; rw [yh, sTl]
 have vx : ∀ i (z : Int), i < n -> hI (fldN B SF i) z <= hI (fldN B SF (i + 1)) z := fun i z hi => by
  rw [yh, fNt _ _ _ _ _ (by omega), fNt _ _ _ _ _ (by omega)];exact tTu _ _ _ vG.out _ _
 have xB := hid vx;rw [<- yh] at HD yT yx;clear yh vx;have xZ := yT.below y9;have zY := hid (HD.out.below y9);clear yT y9 HD xJ;obtain ⟨us, zf, xb, xa⟩ := xZ;rw [Q.out] at zf xb;have yt : ∀ u ∈ us, u.oneCell' = true := fun u hu => by
  obtain ⟨i, hi, rfl⟩ := List.getElem_of_mem hu;obtain ⟨p, c, e⟩ := (xa i _ _ (List.getElem?_eq_getElem hi) (List.getElem?_eq_getElem (by rw [Q.out, <- zf]; exact hi))).shape;rw [e]; rfl
 have yq := hid yt;have xz := hid xa;have yr := hid (osc (xb.alloc (.cells #[.slice pb P.length cb] 33)));have zA := hid (oo2 o5 o5.heap.size 33 (.slice pb P.length cb) (Nat.le_refl _));have xA := hid zf;have jM := cD.lt;have C := cD.cell 0 rfl;have A := cD.cell 2 rfl;have jf := (cD.alloc (.cells #[.slice pb P.length cb] 33)).cell 2 rfl;clear yt xa xb zf;obtain ⟨j0, va, vy, hJ, vz⟩ := info_parts iFd
 go_upto_region 5 with (at_builtin; refine wLa _ rfl _ _ 43 rfl o5.heap.size 33 j0 (.slice none 0 0) 1 24 Tryz.underlying43 va vy hJ vz rfl (by decide) _ _ _ rfl zA.out _ n us rfl yr.out yq.out (by unfold maxLen; omega) (by omega) (by simp) ?_
                        intro v3 X hN zj;rw [Nat.add_comm 1 n] at hN;obtain ⟨ga, ca, rfl, kd, zi, jq, v6⟩ := obk hN (by omega))
 have z9 : Below o5.heap.size o5 X := ((Below.refl o5.heap.size o5).alloc (Nat.le_refl _) (.cells #[.slice pb P.length cb] 33)).grown zj (by simp) (fun j hj => (zA.out.lt j hj).1);have zZ : Hid (∀ i, i <= n -> (fldN B SF i).length = P.length) := fun i hi => zY.out.fl _ (fNm B SF (by rw [Q.out]; exact hi))
 have zX : Hid (∀ i, i <= n -> ∃ b o c, X.cell? ⟨ga, i, none⟩ = some (.slice (some ⟨b, o, none⟩) P.length c) /\ b < X.heap.size /\ RdQ X (.slice (some ⟨b, o, none⟩) P.length c) (fldN B SF i) /\ ∀ j : Nat, j < P.length -> X.cell? ⟨b, o + j, none⟩ = some (.string (RS (hI (fldN B SF i) j)))) := fun i hi => by
  have hR : ∃ u, (Value.slice pb P.length cb :: us)[i]? = some u /\ RdQ X u (fldN B SF i) := by
   cases i with
   | zero => exact ⟨_, rfl, RdC.below zY.out.base z9⟩
   | succ j =>
     have hj : j < us.length := by rw [xA.out]; omega
     have vb : j < SF.length := by rw [Q.out]; omega
     rw [fNn B SF vb];exact ⟨us[j], by rw [List.getElem?_cons_succ, List.getElem?_eq_getElem hj], RdC.below (xz.out j us[j] SF[j] (List.getElem?_eq_getElem hj) (List.getElem?_eq_getElem vb)).rd z9⟩
  obtain ⟨u, hu, hr⟩ := hR;have vk := zZ.out i hi;obtain ⟨b, o, c, rfl, hb, hc⟩ := hr.cells (by rw [vk]; have := yA.out; omega);rw [vk] at hu hc hr;have E := hN.cells rfl i _ hu;rw [aps, Nat.zero_add] at E;exact ⟨b, o, c, E, hb, hr, hc⟩
 have hf := zbt xK z9;have aM := cM.bl z9;have aD := cD.bl z9;have hw := hid (zY.out.below z9);clear hN zj zA yr xz yq C A jf jM cM cD xK zY z9 va vy hJ vz;have xX : P ≠ [] := by intro e; have := yA.out; rw [e] at this; simp at this
 have xw : Hid (∀ w', Below X.heap.size X w' -> Good w' -> Calls Tryz.prog 18 #[.agg #[.slice pp P.length cp, .slice pt T.length ct], .agg #[.slice pb P.length cb, .slice pu (n + 1) cu, .slice ps n cs], .int .i64 nz] w' (Ret (fun r w2 => ∃ (p8 : Option Addr) (m8 c8 : Nat) (e8 : Int), r = .tuple #[.slice p8 m8 c8, .int .i64 e8] /\ ((¬ (0 <= nz /\ nz <= (n : Int)) /\ p8 = none /\ m8 = 0 /\ c8 = 0 /\ e8 = 3) \/ (∃ k : Nat, nz = (k : Int) /\ k <= n /\ e8 = 0 /\ m8 = P.length /\ RdQ w2 (.slice p8 m8 c8) (fldN B SF k)))) w')) := fun w' hb hg' => by
  refine (sn0 w' _ _ _ _ _ P T 3 B _ SF (hw.out.below hb) nz xX hg').mono ?_;rintro e w2 ⟨r, rfl, hr, ho⟩;rw [Q.out] at hr;rcases hr with ⟨h1, rfl⟩ | ⟨k, h1, h2, v, rfl, h3⟩
  ·exact ⟨_, rfl, ⟨_, _, _, _, rfl, .inl ⟨h1, rfl, rfl, rfl, rfl⟩⟩, ho⟩
  ·obtain ⟨p, c, rfl⟩ := h3.shape
   rw [zZ.out k h2] at h3 ⊢;exact ⟨_, rfl, ⟨_, _, _, _, rfl, .inr ⟨k, h1, h2, rfl, rfl, h3.rd⟩⟩, ho⟩
 clear xX;obtain ⟨L, N⟩ := zk2 aM;obtain ⟨C, a, A⟩ := zk3 aD;go_wp2_with fail;refine (xw.out X (Below.refl _ _) (hg.below hf)).mono ?_;rintro e o6 ⟨_, rfl, ⟨p8, m8, c8, e8, rfl, vu⟩, zI⟩;have jg := zbt hf zI;have yB := hid vu;have j4 := aM.bl zI;have j3 := aD.bl zI;have zt := zI;clear vu zI L N C a A xw;obtain ⟨bR, v5⟩ : ∃ b, b = decide (nz < 0 \/ (n : Int) + 1 <= nz) := ⟨_, rfl⟩;have zm := hid v5;clear v5;go_upto_region 6 with fail;go_cut [62] from 55 to 61 (fun s wx => s = .bool bR /\ wx = o6)
 case first =>
  rcases (by omega : nz < 0 \/ (¬ nz < 0 /\ (n : Int) + 1 <= nz) \/ (¬ nz < 0 /\ ¬ (n : Int) + 1 <= nz)) with h1 | ⟨h1, h2⟩ | ⟨h1, h2⟩
  ·have e : bR = true := by rw [zm.out, decide_eq_true_iff]; exact .inl h1
   go_wp2_with fail;go_meet;exact ⟨by rw [e], rfl⟩
  ·have e : bR = true := by rw [zm.out, decide_eq_true_iff]; exact .inr h2
   have h3 : ¬ nz < (n : Int) + 1 := by omega
   go_wp2_with fail;go_meet;exact ⟨by rw [e], rfl⟩
  ·have e : bR = false := by rw [zm.out, decide_eq_false_iff_not]; omega
   have h3 : nz < (n : Int) + 1 := by omega
   go_wp2_with fail;go_meet;exact ⟨by rw [e], rfl⟩
 case rest =>
 obtain ⟨rfl, rfl⟩ := hcut;have lA := zi;go_upto_if 62 with fail;go_cut [62] from 63 to 80 (fun _ wx => Below X.heap.size X wx)
 case first =>
  cases hbb : bR
  ·have x6 : ¬ (nz < 0 \/ (n : Int) + 1 <= nz) := by have := zm.out; rw [hbb] at this; exact of_decide_eq_false this.symm
   rcases yB.out with ⟨h1, -⟩ | ⟨k, h1, h2, h3, h4, E⟩
   ·exact absurd (by omega) h1
   subst h1 h3 h4;obtain ⟨b, o, c, x1, hb, hr, hc⟩ := zX.out k h2;have kb := zt;have x2 := zcq zt zi x1;have zv : (k : Int) < (n : Int) + 1 := by omega
   have x8 := sFa _ _ _ _ wc (RdQ.toS E) (RdQ.toS (RdC.below hr zt));rw [decide_eq_true rfl] at x8;have yD := hid x8;clear x8 E hr hc x1 x6;go_wp2_with fail;refine yD.out.mono ?_;rintro e wz ⟨_, rfl, rfl, yW⟩;go_wp2_with fail;go_meet;exact (zbt zt yW)
  ·have x6 : nz < 0 \/ (n : Int) + 1 <= nz := by have := zm.out; rw [hbb] at this; exact of_decide_eq_true this.symm
   rcases yB.out with ⟨-, h1, h2, h3, h4⟩ | ⟨k, h1, h2, -⟩
   ·subst h1 h2 h3 h4
    clear x6;go_wp2_with fail;go_meet;exact zt
   ·exfalso; omega
 case rest =>
 obtain ⟨o7, jz⟩ : ∃ x : World, x = wc := ⟨_, rfl⟩;subst jz;have hE := hcut;have xM := zbt hf hcut;have z7 := aM.bl hcut;have z6 := aD.bl hcut;clear yB zm j4 j3 hcut zt jg;have ji : 0 <= max nz (-(nz + 1)) := by rw [Int.max_def]; split <;> omega
 obtain ⟨y, vi⟩ : ∃ m : Nat, max nz (-(nz + 1)) % ((n : Int) + 1) = (m : Int) := ⟨(max nz (-(nz + 1)) % ((n : Int) + 1)).toNat, by have := Int.emod_nonneg (max nz (-(nz + 1))) (show (n : Int) + 1 ≠ 0 by omega); omega⟩;have ve : y <= n := by have := Int.emod_lt_of_pos (max nz (-(nz + 1))) (show (0 : Int) < (n : Int) + 1 by omega); omega
 have jE : IntKind.i64.wrap ((n : Int) + 1) = (n : Int) + 1 := by rw [IntKind.wrap_i64]; omega
 have jw : ¬ ((n : Int) + 1 = 0) := by omega
 have yy := hid vi;clear vi;go_upto_region 11 with fail;go_cut [10] from 81 to 88 (fun s wx => s = .int .i64 y /\ wx = o7)
 case first =>
  rcases (by omega : nz < 9223372036854775807 \/ nz = 9223372036854775807) with h1 | h1
  ·have kn : IntKind.i64.wrap (nz + 1) = nz + 1 := by rw [IntKind.wrap_i64]; omega
   have ko : IntKind.i64.wrap (-(nz + 1)) = -(nz + 1) := by rw [IntKind.wrap_i64]; omega
   go_wp2_with fail;go_meet;exact ⟨by rw [yy.out], rfl⟩
  ·subst h1
   go_wp2_with fail;go_meet;exact ⟨by rw [<- yy.out, show max 9223372036854775807 (wrap64 (-wrap64 9223372036854775808)) = max (9223372036854775807 : Int) (-(9223372036854775807 + 1)) by decide +kernel], rfl⟩
 case rest =>
 obtain ⟨rfl, rfl⟩ := hcut;clear ji yy jE jw jy jq v6;obtain ⟨kt, jY, eu, vv, vw, vr⟩ := hw.out.unit.open;obtain ⟨hh, zM, yk, yl, ym⟩ := fus n y jx ve;have xy : Hid (∃ b o, pu = some ⟨b, o, none⟩ /\ b < X.heap.size /\ X.cell? ⟨b, o + y, none⟩ = some (.string (nameU y))) := by
  injection eu with e1 _ _
  obtain ⟨b, o, e2, h3, h4⟩ := vr (by rw [uTn]; simp);have E : y < (uTo (n + 1)).length := by rw [uTl]; omega
  refine ⟨b, o, e1.trans e2, h3, ?_⟩;rw [h4 y E];have h6 := uTa ve;rw [List.getElem?_eq_getElem E] at h6;rw [Option.some.inj h6]
 rw [uTl] at vv;obtain ⟨bu, ou, rfl, hx, ze⟩ := xy.out;injection eu with eu1 eu2 eu3
 clear eu1 eu2;subst eu3;clear vr xy vw;have zk : 0 < P.length := by have := yA.out; omega
 have y5 : Hid (∀ w', Below X.heap.size X w' -> Good w' -> Calls Tryz.prog 20 #[.agg #[.slice pp P.length cp, .slice pt T.length ct], .agg #[.slice pb P.length cb, .slice (some ⟨bu, ou, none⟩) (n + 1) cu, .slice ps n cs], .string ⟨#[120]⟩] w' (Ret (fun r _ => r = .tuple #[.slice none 0 0, .int .i64 10]) w')) := fun w' hb hg' => by
  have E := sk0 w' _ _ _ _ _ P T 3 B _ SF (hw.out.below hb) ⟨#[120]⟩ (by rw [Q.out, yk]; decide) hg';rw [Q.out, yk] at E;exact E
 have y6 : Hid (∀ w', Below X.heap.size X w' -> Good w' -> Calls Tryz.prog 21 #[.agg #[.slice pp P.length cp, .slice pt T.length ct], .agg #[.slice pb P.length cb, .slice (some ⟨bu, ou, none⟩) (n + 1) cu, .slice ps n cs], .string ⟨#[]⟩] w' (Ret (fun r _ => r = .tuple #[.string ⟨#[]⟩, .int .i64 10]) w')) := fun w' hb hg' => by
  have E := ser w' _ _ _ _ _ P T 3 B _ SF (hw.out.below hb) ⟨#[]⟩ (by rw [Q.out, yl]; decide) hg';rw [Q.out, yl] at E;exact E
 have zg : Hid (∀ w', Below X.heap.size X w' -> Good w' -> Calls Tryz.prog 22 #[.agg #[.slice pp P.length cp, .slice pt T.length ct], .agg #[.slice pb P.length cb, .slice (some ⟨bu, ou, none⟩) (n + 1) cu, .slice ps n cs], .string ⟨#[117, 57]⟩] w' (Ret (fun r _ => r = .tuple #[.slice none 0 0, .int .i64 10]) w')) := fun w' hb hg' => by
  have E := sl0 w' _ _ _ _ _ P T 3 B _ SF (hw.out.below hb) ⟨#[117, 57]⟩ (by rw [Q.out, ym]; decide) hg';rw [Q.out, ym] at E;exact E
 have jt : (y : Int) < (n : Int) + 1 := by omega
 by_cases hke : y = n
 ·rw [if_pos hke] at hh
  have vc : n = y := hke.symm;subst vc;have zD : Hid (∀ w', Below X.heap.size X w' -> Good w' -> Calls Tryz.prog 20 #[.agg #[.slice pp P.length cp, .slice pt T.length ct], .agg #[.slice pb P.length cb, .slice (some ⟨bu, ou, none⟩) (n + 1) cu, .slice ps n cs], .string (nameU n)] w' (Ret (fun r _ => r = .tuple #[.slice none 0 0, .int .i64 21]) w')) := fun w' hb hg' => by
   have E := sk0 w' _ _ _ _ _ P T 3 B _ SF (hw.out.below hb) (nameU n) (by rw [Q.out, hh]; decide) hg';rw [Q.out, hh] at E;exact E
  have zE : Hid (∀ w', Below X.heap.size X w' -> Good w' -> Calls Tryz.prog 21 #[.agg #[.slice pp P.length cp, .slice pt T.length ct], .agg #[.slice pb P.length cb, .slice (some ⟨bu, ou, none⟩) (n + 1) cu, .slice ps n cs], .string (nameU n)] w' (Ret (fun r _ => r = .tuple #[.string ⟨#[]⟩, .int .i64 21]) w')) := fun w' hb hg' => by
   have E := ser w' _ _ _ _ _ P T 3 B _ SF (hw.out.below hb) (nameU n) (by rw [Q.out, hh]; decide) hg';rw [Q.out, hh] at E;exact E
  have hU : Hid (∀ w', Below X.heap.size X w' -> Good w' -> Calls Tryz.prog 22 #[.agg #[.slice pp P.length cp, .slice pt T.length ct], .agg #[.slice pb P.length cb, .slice (some ⟨bu, ou, none⟩) (n + 1) cu, .slice ps n cs], .string (nameU n)] w' (Ret (fun r _ => r = .tuple #[.slice none 0 0, .int .i64 21]) w')) := fun w' hb hg' => by
   have E := sl0 w' _ _ _ _ _ P T 3 B _ SF (hw.out.below hb) (nameU n) (by rw [Q.out, hh]; decide) hg';rw [Q.out, hh] at E;exact E
  clear hh zM yk yl ym;clear hke;obtain ⟨L, N⟩ := zk2 z7;obtain ⟨C, a, A⟩ := zk3 z6;have lm := z7.lt;have ld := z6.lt;have zb := Nat.lt_of_lt_of_le hx hE.size;have xu := zcq hE hx ze;have R : Good wc.drew := (hg.below xM).drewN 1;have hd : Below X.heap.size X wc.drew := hE.trans ((bdN wc 1).mono hE.size);go_upto_region 12 with fail;go_region_held3 (fun w' => w'.cell? ⟨g6, 0, none⟩ = some (.slice pp P.length cp) /\ w'.cell? ⟨g6, 1, none⟩ = some (.slice pt T.length ct) /\ w'.cell? ⟨g7, 0, none⟩ = some (.slice pb P.length cb) /\ w'.cell? ⟨g7, 1, none⟩ = some (.slice (some ⟨bu, ou, none⟩) (n + 1) cu) /\ w'.cell? ⟨g7, 2, none⟩ = some (.slice ps n cs) /\ w'.cell? ⟨bu, ou + n, none⟩ = some (.string (nameU n)))
   (first | exact ⟨L, N, C, a, A, xu⟩ | exact ⟨T_1_0, T_1_1, T_1_2, T_1_3, T_1_4, T_1_5⟩)
   (first
   | (go_at_call 20; refine (zD.out _ hd R).mono ?_; rintro e O ⟨_, rfl, rfl, I⟩
      have T_1_0 := zct I L;have T_1_1 := zct I N;have T_1_2 := zct I C;have T_1_3 := zct I a;have T_1_4 := zct I A;have T_1_5 := zct I xu;have yK : wc.heap.size <= O.heap.size := I.size;have yJ := R.below I))
  have TB : Below wc.heap.size wc O := zbt (bdN wc 1) I;have hl : Below X.heap.size X O := zbt hE TB;have yc := zbt hf hl;have hY := z7.bl TB;have hX := z6.bl TB;clear L N C a A lm ld zb xu R hd I yK yJ T_1_0 T_1_1 T_1_2 T_1_3 T_1_4 T_1_5 zD;obtain ⟨L, N⟩ := zk2 hY;obtain ⟨C, a, A⟩ := zk3 hX;have lm := hY.lt;have ld := hX.lt;have zb := Nat.lt_of_lt_of_le hx hl.size;have xu := zcq hl hx ze;have R : Good O.drew := (hg.below yc).drewN 1;have hd : Below X.heap.size X O.drew := hl.trans ((bdN O 1).mono hl.size);go_upto_region 13 with fail;go_region_held3 (fun w' => w'.cell? ⟨g6, 0, none⟩ = some (.slice pp P.length cp) /\ w'.cell? ⟨g6, 1, none⟩ = some (.slice pt T.length ct) /\ w'.cell? ⟨g7, 0, none⟩ = some (.slice pb P.length cb) /\ w'.cell? ⟨g7, 1, none⟩ = some (.slice (some ⟨bu, ou, none⟩) (n + 1) cu) /\ w'.cell? ⟨g7, 2, none⟩ = some (.slice ps n cs) /\ w'.cell? ⟨bu, ou + n, none⟩ = some (.string (nameU n)))
   (first | exact ⟨L, N, C, a, A, xu⟩ | exact ⟨V_1_0, V_1_1, V_1_2, V_1_3, V_1_4, V_1_5⟩)
   (first
   | (go_at_call 21; refine (zE.out _ hd R).mono ?_; rintro e M ⟨_, rfl, rfl, G⟩
      have V_1_0 := zct G L;have V_1_1 := zct G N;have V_1_2 := zct G C;have V_1_3 := zct G a;have V_1_4 := zct G A;have V_1_5 := zct G xu;have yM : O.heap.size <= M.heap.size := G.size;have yL := R.below G))
  have VB : Below O.heap.size O M := zbt (bdN O 1) G;have hn : Below X.heap.size X M := zbt hl VB;have yd := zbt hf hn;have z0 := hY.bl VB;have hZ := hX.bl VB;clear L N C a A lm ld zb xu R hd G yM yL V_1_0 V_1_1 V_1_2 V_1_3 V_1_4 V_1_5 zE;obtain ⟨L, N⟩ := zk2 z0;obtain ⟨C, a, A⟩ := zk3 hZ;have lm := z0.lt;have ld := hZ.lt;have zb := Nat.lt_of_lt_of_le hx hn.size;have xu := zcq hn hx ze;have R : Good M.drew := (hg.below yd).drewN 1;have hd : Below X.heap.size X M.drew := hn.trans ((bdN M 1).mono hn.size);go_upto_region 14 with fail;go_region_held3 (fun w' => w'.cell? ⟨g6, 0, none⟩ = some (.slice pp P.length cp) /\ w'.cell? ⟨g6, 1, none⟩ = some (.slice pt T.length ct) /\ w'.cell? ⟨g7, 0, none⟩ = some (.slice pb P.length cb) /\ w'.cell? ⟨g7, 1, none⟩ = some (.slice (some ⟨bu, ou, none⟩) (n + 1) cu) /\ w'.cell? ⟨g7, 2, none⟩ = some (.slice ps n cs) /\ w'.cell? ⟨bu, ou + n, none⟩ = some (.string (nameU n)))
   (first | exact ⟨L, N, C, a, A, xu⟩ | exact ⟨Q_1_0, Q_1_1, Q_1_2, Q_1_3, Q_1_4, Q_1_5⟩)
   (first
   | (go_at_call 22; refine (hU.out _ hd R).mono ?_; rintro e hz ⟨_, rfl, rfl, J⟩
      have Q_1_0 := zct J L;have Q_1_1 := zct J N;have Q_1_2 := zct J C;have Q_1_3 := zct J a;have Q_1_4 := zct J A;have Q_1_5 := zct J xu;have yI : M.heap.size <= hz.heap.size := J.size;have yH := R.below J))
  have QB : Below M.heap.size M hz := zbt (bdN M 1) J;have z1 : Below X.heap.size X hz := zbt hn QB;have yb := zbt hf z1;have zo := z0.bl QB;have zn := hZ.bl QB;clear L N C a A lm ld zb xu R hd J yI yH Q_1_0 Q_1_1 Q_1_2 Q_1_3 Q_1_4 Q_1_5 hU;obtain ⟨L, N⟩ := zk2 zo;obtain ⟨C, a, A⟩ := zk3 zn;go_wp2_with fail;refine zR (y5.out hz z1 (hg.below yb)) fun Xw hbX => ?_;have z2 := zbt z1 hbX;have ye := zbt hf z2;have zq := zo.bl hbX;have zp := zn.bl hbX;clear L N C a A y5;obtain ⟨L, N⟩ := zk2 zq;obtain ⟨C, a, A⟩ := zk3 zp;go_wp2_with fail;refine zR (y6.out Xw z2 (hg.below ye)) fun Yw hbY => ?_;have z3 := zbt z2 hbY;have yf := zbt hf z3;have zs := zq.bl hbY;have zr := zp.bl hbY;clear L N C a A y6;obtain ⟨L, N⟩ := zk2 zs;obtain ⟨C, a, A⟩ := zk3 zr;go_wp2_with fail;refine zR (zg.out Yw z3 (hg.below yf)) fun Zw hbZ => ?_;have zG := zbt z3 hbZ;have yQ := zbt hf zG;have yN := zs.bl hbZ;have j5 := zr.bl hbZ;clear L N C a A zg;go_wp2_with fail;go_ret;exact ⟨_, rfl, rfl, yQ⟩
 ·rw [if_neg hke] at hh
  have zc : y < n := by omega
  obtain ⟨FU, hG⟩ : ∃ F, F = fldN B SF (y + 1) := ⟨_, rfl⟩;obtain ⟨FL, hF⟩ : ∃ F, F = fldN B SF y := ⟨_, rfl⟩;have yn : FU.length = P.length := by rw [hG]; exact zZ.out _ (by omega)
  have zw : FL.length = P.length := by rw [hF]; exact zZ.out _ (by omega)
  have zO : ∀ z : Int, Fr 2 152 (hI FU z) := hI_fr fun q hq => yx.out FU (by rw [hG]; exact fNm B SF (by rw [Q.out]; omega)) q hq
  have zN : ∀ z : Int, Fr 2 152 (hI FL z) := hI_fr fun q hq => yx.out FL (by rw [hF]; exact fNm B SF (by rw [Q.out]; omega)) q hq
  obtain ⟨D, hD⟩ := zex (subQ FU FL);have yg : ∀ z : Int, hI D z = hI FU z - hI FL z := fun z => by rw [hD]; exact hIs (by rw [yn, zw]) z
  have xT : ∀ z : Int, 0 <= hI D z := fun z => by rw [yg]; have := xB.out y z zc; rw [<- hG, <- hF] at this; grind
  have zH : ∀ z : Int, Fr 2 304 (hI D z) := fun z => by rw [yg]; exact (zO z).sub (zN z)
  have yR : D.length = P.length := by rw [hD, sQl _ _ (by rw [yn, zw]), zw]
  have yS : ∀ q ∈ D, Sz 3 q := fun q hq => by
   obtain ⟨i, hi, rfl⟩ := List.getElem_of_mem hq;have := zH i;rw [hh0 D i hi] at this;exact sf3 this
  have zT := vup (P := P) (T := T) (D := D) xT T.length;have x7 : ∀ t, t <= T.length -> Sz 10 (sumD P T D t) := fun t ht => sDS vO.out zH (by omega)
  have zD : Hid (∀ w', Below X.heap.size X w' -> Good w' -> Calls Tryz.prog 20 #[.agg #[.slice pp P.length cp, .slice pt T.length ct], .agg #[.slice pb P.length cb, .slice (some ⟨bu, ou, none⟩) (n + 1) cu, .slice ps n cs], .string (nameU y)] w' (Ret (fun r w2 => ∃ (p : Option Addr) (c : Nat), r = .tuple #[.slice p P.length c, .int .i64 0] /\ RdQ w2 (.slice p P.length c) D) w')) := fun w' hb hg' => by
   refine (sv0 w' _ _ _ _ _ P T 3 B _ SF (hw.out.below hb) (by omega) zk (nameU y) y (by rw [Q.out]; exact zc) zM hg').mono ?_;rintro e w2 ⟨r, rfl, ⟨v, rfl, hv⟩, ho⟩;rw [<- hG, <- hF, <- hD] at hv;obtain ⟨p, c, rfl⟩ := hv.shape;rw [yR] at hv ⊢;exact ⟨_, rfl, ⟨_, _, rfl, hv.rd⟩, ho⟩
  have zE : Hid (∀ w', Below X.heap.size X w' -> Good w' -> Calls Tryz.prog 21 #[.agg #[.slice pp P.length cp, .slice pt T.length ct], .agg #[.slice pb P.length cb, .slice (some ⟨bu, ou, none⟩) (n + 1) cu, .slice ps n cs], .string (nameU y)] w' (Ret (fun r _ => r = .tuple #[.string (RS (sumD P T D T.length * (1 / 6))), .int .i64 0]) w')) := fun w' hb hg' =>
   sok w' _ _ _ _ _ P T 3 B _ SF (hw.out.below hb) (nameU y) y (by rw [Q.out]; exact zc) zM (sumD P T D T.length * (1 / 6)) (fun w2 vf vg h1 h2 hg2 => by
    have E := f55 w2 _ _ vf vg P T 3 _ _ h1 h2 (by omega) (by
     rw [<- fNn B SF (by rw [Q.out]; exact zc), <- hG, <- hF, <- hD];exact fun q hq => (yS q hq).mono (by omega)) (by omega) (by
     rw [<- fNn B SF (by rw [Q.out]; exact zc), <- hG, <- hF, <- hD, zT];exact ((x7 _ (Nat.le_refl _)).mul sixth_Sz).mono (by omega)) hg2
    rw [<- fNn B SF (by rw [Q.out]; exact zc), <- hG, <- hF, <- hD, zT] at E;exact E) hg'
  have hU : Hid (∀ w', Below X.heap.size X w' -> Good w' -> Calls Tryz.prog 22 #[.agg #[.slice pp P.length cp, .slice pt T.length ct], .agg #[.slice pb P.length cb, .slice (some ⟨bu, ou, none⟩) (n + 1) cu, .slice ps n cs], .string (nameU y)] w' (Ret (fun r w2 => ∃ (p : Option Addr) (m c : Nat), r = .tuple #[.slice p m c, .int .i64 0] /\ (pinL FU FL P.length).length = m /\ w2.ownsRow w'.heap.size 3 1 (.slice p m c) m ((pinL FU FL P.length).map fun x : Nat => Value.int .i64 (x : Int))) w')) := fun w' hb hg' => by
   refine (sx0 w' _ _ _ _ _ P T 3 B _ SF (hw.out.below hb) zk (nameU y) y (by rw [Q.out]; exact zc) zM hg').mono ?_;rintro e w2 ⟨r, rfl, ⟨v, rfl, hv⟩, ho⟩;rw [<- hG, <- hF] at hv;obtain ⟨p, c, rfl⟩ := oRs hv;exact ⟨_, rfl, ⟨_, _, _, rfl, rfl, hv⟩, ho⟩
  have vJ := hid yg;have xp := hid yS;have zy := hid yR;have xv := hid x7;have vK : Hid (∀ i : Nat, i < P.length -> D.take (i + 1) = D.take i ++ [hI FU i - hI FL i]) := fun i hi => by rw [hD]; exact sQt (by rw [yn, zw]) (by rw [zw]; exact hi)
  have vT : Hid (∀ z : Int, Sz 3 (hI FU z) /\ Sz 3 (hI FL z)) := fun z => ⟨s3o ((zO z).mono (by omega)), s3o ((zN z).mono (by omega))⟩
  obtain ⟨bU, oU, cU, xU, jm, -, yY⟩ := zX.out (y + 1) (by omega);obtain ⟨bL, oL, cL, xL, jk, -, yX⟩ := zX.out y (by omega);rw [<- hG] at yY;rw [<- hF] at yX;have vI := hid yY;have vH := hid yX;have vj : ¬ (y : Int) = (n : Int) := by omega
  clear hh zM yk yl ym hG hF yn zw zO zN hD yg xT zH yR yS zT x7 yY yX zX xB hke;obtain ⟨L, N⟩ := zk2 z7;obtain ⟨C, a, A⟩ := zk3 z6;have lm := z7.lt;have ld := z6.lt;have zb := Nat.lt_of_lt_of_le hx hE.size;have xu := zcq hE hx ze;have R : Good wc.drew := (hg.below xM).drewN 1;have hd : Below X.heap.size X wc.drew := hE.trans ((bdN wc 1).mono hE.size);go_upto_region 12 with fail;go_region_held3 (fun w' => w'.cell? ⟨g6, 0, none⟩ = some (.slice pp P.length cp) /\ w'.cell? ⟨g6, 1, none⟩ = some (.slice pt T.length ct) /\ w'.cell? ⟨g7, 0, none⟩ = some (.slice pb P.length cb) /\ w'.cell? ⟨g7, 1, none⟩ = some (.slice (some ⟨bu, ou, none⟩) (n + 1) cu) /\ w'.cell? ⟨g7, 2, none⟩ = some (.slice ps n cs) /\ w'.cell? ⟨bu, ou + y, none⟩ = some (.string (nameU y)))
   (first | exact ⟨L, N, C, a, A, xu⟩ | exact ⟨T_1_0, T_1_1, T_1_2, T_1_3, T_1_4, T_1_5⟩)
   (first
   | (go_at_call 20; refine (zD.out _ hd R).mono ?_; rintro e O ⟨_, rfl, ⟨pT, cT, rfl, vq⟩, I⟩
      have T_1_0 := zct I L;have T_1_1 := zct I N;have T_1_2 := zct I C;have T_1_3 := zct I a;have T_1_4 := zct I A;have T_1_5 := zct I xu;have yK : wc.heap.size <= O.heap.size := I.size;have yJ := R.below I))
  have TB : Below wc.heap.size wc O := zbt (bdN wc 1) I;have hl : Below X.heap.size X O := zbt hE TB;have yc := zbt hf hl;have hY := z7.bl TB;have hX := z6.bl TB;clear L N C a A lm ld zb xu R hd I yK yJ T_1_0 T_1_1 T_1_2 T_1_3 T_1_4 T_1_5 zD;obtain ⟨L, N⟩ := zk2 hY;obtain ⟨C, a, A⟩ := zk3 hX;have lm := hY.lt;have ld := hX.lt;have zb := Nat.lt_of_lt_of_le hx hl.size;have xu := zcq hl hx ze;have R : Good O.drew := (hg.below yc).drewN 1;have hd : Below X.heap.size X O.drew := hl.trans ((bdN O 1).mono hl.size);go_upto_region 13 with fail;go_region_held3 (fun w' => w'.cell? ⟨g6, 0, none⟩ = some (.slice pp P.length cp) /\ w'.cell? ⟨g6, 1, none⟩ = some (.slice pt T.length ct) /\ w'.cell? ⟨g7, 0, none⟩ = some (.slice pb P.length cb) /\ w'.cell? ⟨g7, 1, none⟩ = some (.slice (some ⟨bu, ou, none⟩) (n + 1) cu) /\ w'.cell? ⟨g7, 2, none⟩ = some (.slice ps n cs) /\ w'.cell? ⟨bu, ou + y, none⟩ = some (.string (nameU y)))
   (first | exact ⟨L, N, C, a, A, xu⟩ | exact ⟨V_1_0, V_1_1, V_1_2, V_1_3, V_1_4, V_1_5⟩)
   (first
   | (go_at_call 21; refine (zE.out _ hd R).mono ?_; rintro e M ⟨_, rfl, rfl, G⟩
      have V_1_0 := zct G L;have V_1_1 := zct G N;have V_1_2 := zct G C;have V_1_3 := zct G a;have V_1_4 := zct G A;have V_1_5 := zct G xu;have yM : O.heap.size <= M.heap.size := G.size;have yL := R.below G))
  have VB : Below O.heap.size O M := zbt (bdN O 1) G;have hn : Below X.heap.size X M := zbt hl VB;have yd := zbt hf hn;have z0 := hY.bl VB;have hZ := hX.bl VB;clear L N C a A lm ld zb xu R hd G yM yL V_1_0 V_1_1 V_1_2 V_1_3 V_1_4 V_1_5 zE;obtain ⟨L, N⟩ := zk2 z0;obtain ⟨C, a, A⟩ := zk3 hZ;have lm := z0.lt;have ld := hZ.lt;have zb := Nat.lt_of_lt_of_le hx hn.size;have xu := zcq hn hx ze;have R : Good M.drew := (hg.below yd).drewN 1;have hd : Below X.heap.size X M.drew := hn.trans ((bdN M 1).mono hn.size);go_upto_region 14 with fail;go_region_held3 (fun w' => w'.cell? ⟨g6, 0, none⟩ = some (.slice pp P.length cp) /\ w'.cell? ⟨g6, 1, none⟩ = some (.slice pt T.length ct) /\ w'.cell? ⟨g7, 0, none⟩ = some (.slice pb P.length cb) /\ w'.cell? ⟨g7, 1, none⟩ = some (.slice (some ⟨bu, ou, none⟩) (n + 1) cu) /\ w'.cell? ⟨g7, 2, none⟩ = some (.slice ps n cs) /\ w'.cell? ⟨bu, ou + y, none⟩ = some (.string (nameU y)))
   (first | exact ⟨L, N, C, a, A, xu⟩ | exact ⟨Q_1_0, Q_1_1, Q_1_2, Q_1_3, Q_1_4, Q_1_5⟩)
   (first
   | (go_at_call 22; refine (hU.out _ hd R).mono ?_; rintro e hz ⟨_, rfl, ⟨pQ, mQ, cQ, rfl, vn, vp⟩, J⟩
      have Q_1_0 := zct J L;have Q_1_1 := zct J N;have Q_1_2 := zct J C;have Q_1_3 := zct J a;have Q_1_4 := zct J A;have Q_1_5 := zct J xu;have yI : M.heap.size <= hz.heap.size := J.size;have yH := R.below J))
  have QB : Below M.heap.size M hz := zbt (bdN M 1) J;have z1 : Below X.heap.size X hz := zbt hn QB;have yb := zbt hf z1;have zo := z0.bl QB;have zn := hZ.bl QB;clear L N C a A lm ld zb xu R hd J yI yH Q_1_0 Q_1_1 Q_1_2 Q_1_3 Q_1_4 Q_1_5 hU;obtain ⟨L, N⟩ := zk2 zo;obtain ⟨C, a, A⟩ := zk3 zn;go_wp2_with fail;refine zR (y5.out hz z1 (hg.below yb)) fun Xw hbX => ?_;have z2 := zbt z1 hbX;have ye := zbt hf z2;have zq := zo.bl hbX;have zp := zn.bl hbX;clear L N C a A y5;obtain ⟨L, N⟩ := zk2 zq;obtain ⟨C, a, A⟩ := zk3 zp;go_wp2_with fail;refine zR (y6.out Xw z2 (hg.below ye)) fun Yw hbY => ?_;have z3 := zbt z2 hbY;have yf := zbt hf z3;have zs := zq.bl hbY;have zr := zp.bl hbY;clear L N C a A y6;obtain ⟨L, N⟩ := zk2 zs;obtain ⟨C, a, A⟩ := zk3 zr;go_wp2_with fail;refine zR (zg.out Yw z3 (hg.below yf)) fun Zw hbZ => ?_;have zG := zbt z3 hbZ;have yQ := zbt hf zG;have yN := zs.bl hbZ;have j5 := zr.bl hbZ;clear L N C a A zg;have v4 : Below O.heap.size O Zw := ((((zbt VB QB)).trans (hbX.mono (Nat.le_trans VB.size QB.size))).trans (hbY.mono (Nat.le_trans (Nat.le_trans VB.size QB.size) hbX.size))).trans (hbZ.mono (Nat.le_trans (Nat.le_trans (Nat.le_trans VB.size QB.size) hbX.size) hbY.size));have xY : Below hz.heap.size hz Zw := ((zbt hbX hbY)).trans (hbZ.mono (Nat.le_trans hbX.size hbY.size));have vS : Hid (RdQ Zw (.slice pT P.length cT) D) := RdC.below vq v4;have x5 : Zw.ownsRow M.heap.size 3 1 (.slice pQ mQ cQ) mQ ((pinL FU FL P.length).map fun x : Nat => Value.int .i64 (x : Int)) := WRA vp xY;have vP : Hid (∀ m i : Nat, (pinL FU FL P.length)[m]? = some i -> m < mQ -> ∃ gQ, pQ = some ⟨gQ, 0, none⟩ /\ gQ < Zw.heap.size /\ Zw.cell? ⟨gQ, m, none⟩ = some (.int .i64 (i : Int))) := fun m i hm hlt => by
   obtain ⟨gQ, c, e, -, h2, -⟩ := obk x5 (by omega);injection e with e1 e2 e3
   subst e1;have E := x5.cells rfl m (.int .i64 (i : Int)) (by rw [List.getElem?_map, hm]; rfl);rw [aps, Nat.zero_add] at E;exact ⟨gQ, rfl, h2, E⟩
  have xs := hid vn;clear v4 xY x5 vp vq vn TB VB QB hbX hbY hbZ z7 z6 hY hX z0 hZ zo zn zq zp zs zr hl yc hn yd z1 yb z2 ye z3 yf jt lA ze hx aM aD;obtain ⟨k1, zv⟩ : ∃ k : Nat, k = y + 1 := ⟨_, rfl⟩;have kp : IntKind.i64.wrap ((y : Int) + 1) = (k1 : Int) := by rw [IntKind.wrap_i64]; omega
  have jU : (k1 : Int) < (n : Int) + 1 := by omega
  have jV : (y : Int) < (n : Int) + 1 := by omega
  rw [<- zv] at xU;clear zv;have lM := yN.lt;have kf : ((y : Int) == (n : Int)) = false := by rw [beq_eq_false_iff_ne]; exact vj
  go_wp2_with fail;go_loopw [22, 23, 24] (fun t22 t23 t24 wq => ∃ q m : Nat, t24 = .int .i64 q /\ t23 = .int .i64 m /\ q <= P.length /\ Hid ((pinL FU FL q).length = m) /\ wq.ownsRow Zw.heap.size 55 1 t22 q (cFd (D.take q)) /\ Below Zw.heap.size Zw wq) (fun _ _ t24 _ => P.length - (RowKit.intOf t24).toNat)
  case atStart => exact ⟨0, 0, rfl, rfl, Nat.zero_le _, rfl, World.ownsRow_nil _ _ _ _, Below.refl _ _⟩
  case round =>
   obtain ⟨q, m, rfl, rfl, kj, HM, hM, ho⟩ := hrel;obtain ⟨xh, y8, rfl⟩ := oRs hM;have yP := zbt zG ho;have jh := zbt yQ ho;have kM := yN.below ho lM;have L := kM.cell 0 rfl;have ka : (0 : Int) < (P.length : Int) := by omega
   have kh : m <= q := by have := pLl FU FL q; have := HM.out; omega
   rcases Nat.lt_or_ge q P.length with h | h
   ·have kl : (q : Int) < (P.length : Int) := by omega
    have u1 := vI.out q h;have l1 := vH.out q h;have xx := hid (vK.out q h);have vM := hid (vJ.out (q : Int));have x9 := vT.out (q : Int);have yC := hid fun w hg => rSa (hI FU q) (hI FL q) 3 (by omega) (by omega) x9.1 x9.2 w hg
    have vQ : Hid (hI FU q = hI FL q -> m < mQ /\ ∃ gQ, pQ = some ⟨gQ, 0, none⟩ /\ gQ < Zw.heap.size /\ Zw.cell? ⟨gQ, m, none⟩ = some (.int .i64 (q : Int)) /\ (pinL FU FL (q + 1)).length = m + 1) := fun he => by
     obtain ⟨h1, h2⟩ := pLa h he;rw [HM.out, xs.out] at h1;rw [HM.out] at h2;obtain ⟨gQ, e1, e2, e3⟩ := vP.out m q h2 h1;exact ⟨h1, gQ, e1, e2, e3, by rw [pinL, if_pos he, List.length_append, HM.out]; rfl⟩
    have vR : Hid (hI FU q ≠ hI FL q -> (pinL FU FL (q + 1)).length = m) := fun he => by rw [pinL, if_neg he, HM.out]
    generalize hI FU (q : Int) = u at *;generalize hI FL (q : Int) = l at *;obtain ⟨df, yZ⟩ : ∃ d, d = u - l := ⟨_, rfl⟩;have xo : Hid (df = u - l) := yZ;rw [<- yZ] at yC xx;clear yZ x9 vM;have xq : Hid (∀ w', Below X.heap.size X w' -> Good w') := fun w' hb => hg.below ((zbt hf hb));have zz : Hid (∀ w', Below X.heap.size X w' -> w'.cell? ⟨ga, k1, none⟩ = some (.slice (some ⟨bU, oU, none⟩) P.length cU) /\ w'.cell? ⟨ga, y, none⟩ = some (.slice (some ⟨bL, oL, none⟩) P.length cL) /\ w'.cell? ⟨bU, oU + q, none⟩ = some (.string (RS u)) /\ w'.cell? ⟨bL, oL + q, none⟩ = some (.string (RS l))) := fun w' hb => ⟨(zcq hb zi xU :), (zcq hb zi xL :), (zcq hb jm u1 :), (zcq hb jk l1 :)⟩;have yo : Below X.heap.size X wr.drew := yP.trans ((bdN wr 1).mono yP.size);have yv : wr.drew.ownsRow Zw.heap.size 55 1 (.slice xh q y8) q (cFd (D.take q)) := WRA hM (bdN wr 1);have jK := ho.size;have kr := zG.size;obtain ⟨i0, js, jH, jI, jJ⟩ := info_parts isr;clear hM u1 l1;go_upto_region 27 with fail;refine AnyL.region (S := Till 18 (fun w' => w'.cell? ⟨ga, k1, none⟩ = some (.slice (some ⟨bU, oU, none⟩) P.length cU) /\ w'.cell? ⟨ga, y, none⟩ = some (.slice (some ⟨bL, oL, none⟩) P.length cL) /\ w'.cell? ⟨bU, oU + q, none⟩ = some (.string (RS u)) /\ w'.cell? ⟨bL, oL + q, none⟩ = some (.string (RS l))) (fun _ => True)) (by kernel_rfl) ?_;have Z : Till 18 (fun w' => w'.cell? ⟨ga, k1, none⟩ = some (.slice (some ⟨bU, oU, none⟩) P.length cU) /\ w'.cell? ⟨ga, y, none⟩ = some (.slice (some ⟨bL, oL, none⟩) P.length cL) /\ w'.cell? ⟨bU, oU + q, none⟩ = some (.string (RS u)) /\ w'.cell? ⟨bL, oL + q, none⟩ = some (.string (RS l))) (fun _ => True) (Array.replicate 20 false) _ := ⟨zz.out _ yo, fun _ => trivial⟩;refine AnyL.take (i := 0) (oi := _) (v := ?_) rfl (by kernel_rfl) (by kernel_rfl) (by kernel_rfl) (by decide) (fun _ _ _ h => h) (Or.inl ⟨by rfl, ?_⟩) ⟨Z.1, fun _ => Z.2 (by rfl)⟩ ?_;rotate_left
    ·intro w Y; (try dsimp only at Y); first | (go_simp; done) | (go_simp; with_reducible rfl)
    try simp only [Act.put, List.getElem_toArray, List.getElem_cons_zero, List.setIfInBounds_toArray, List.set_cons_zero, List.set_cons_succ]
    refine AnyL.take (i := 1) (oi := _) (v := ?_) rfl (by kernel_rfl) (by kernel_rfl) (by kernel_rfl) (by decide) (fun _ _ _ h => h) (Or.inl ⟨by rfl, ?_⟩) ⟨Z.1, fun _ => Z.2 (by rfl)⟩ ?_;rotate_left
    ·intro w Y; (try dsimp only at Y); first | (go_simp; done) | (go_simp; with_reducible rfl)
    try simp only [Act.put, List.getElem_toArray, List.getElem_cons_zero, List.getElem_cons_succ, List.setIfInBounds_toArray, List.set_cons_zero, List.set_cons_succ]
    refine AnyL.take (i := 2) (oi := _) (v := ?_) rfl (by kernel_rfl) (by kernel_rfl) (by kernel_rfl) (by decide) (fun _ _ _ h => h) (Or.inl ⟨by rfl, ?_⟩) ⟨Z.1, fun _ => Z.2 (by rfl)⟩ ?_;rotate_left
    ·intro w Y; (try dsimp only at Y); first | (go_simp; done) | (go_simp; with_reducible rfl)
    try simp only [Act.put, List.getElem_toArray, List.getElem_cons_zero, List.getElem_cons_succ, List.setIfInBounds_toArray, List.set_cons_zero, List.set_cons_succ]
    refine AnyL.take (i := 3) (oi := _) (v := ?_) rfl (by kernel_rfl) (by kernel_rfl) (by kernel_rfl) (by decide) (fun _ _ _ h => h) (Or.inl ⟨by rfl, ?_⟩) ⟨Z.1, fun _ => Z.2 (by rfl)⟩ ?_;rotate_left
    ·intro w Y; (try dsimp only at Y); first | (go_simp; done) | (go_simp; with_reducible rfl)
    try simp only [Act.put, List.getElem_toArray, List.getElem_cons_zero, List.getElem_cons_succ, List.setIfInBounds_toArray, List.set_cons_zero, List.set_cons_succ]
    refine AnyL.take (i := 4) (oi := _) (v := ?_) rfl (by kernel_rfl) (by kernel_rfl) (by kernel_rfl) (by decide) (fun _ _ _ h => h) (Or.inl ⟨by rfl, ?_⟩) ⟨Z.1, fun _ => Z.2 (by rfl)⟩ ?_;rotate_left
    ·intro w Y; (try dsimp only at Y); first | (go_simp; done) | (go_simp; with_reducible rfl)
    try simp only [Act.put, List.getElem_toArray, List.getElem_cons_zero, List.getElem_cons_succ, List.setIfInBounds_toArray, List.set_cons_zero, List.set_cons_succ]
    refine AnyL.take (i := 5) (oi := _) (v := ?_) rfl (by kernel_rfl) (by kernel_rfl) (by kernel_rfl) (by decide) (fun _ _ _ h => h) (Or.inl ⟨by rfl, ?_⟩) ⟨Z.1, fun _ => Z.2 (by rfl)⟩ ?_;rotate_left
    ·intro w Y; (try dsimp only at Y); first | (go_simp; done) | (go_simp; with_reducible rfl)
    try simp only [Act.put, List.getElem_toArray, List.getElem_cons_zero, List.getElem_cons_succ, List.setIfInBounds_toArray, List.set_cons_zero, List.set_cons_succ]
    refine AnyL.take (i := 6) (oi := _) (v := ?_) rfl (by kernel_rfl) (by kernel_rfl) (by kernel_rfl) (by decide) (fun _ _ _ h => h) (Or.inl ⟨by rfl, ?_⟩) ⟨Z.1, fun _ => Z.2 (by rfl)⟩ ?_;rotate_left
    ·intro w Y; (try dsimp only at Y); first | (go_simp; done) | (go_simp; with_reducible rfl)
    try simp only [Act.put, List.getElem_toArray, List.getElem_cons_zero, List.getElem_cons_succ, List.setIfInBounds_toArray, List.set_cons_zero, List.set_cons_succ]
    refine AnyL.take (i := 7) (oi := _) (v := ?_) rfl (by kernel_rfl) (by kernel_rfl) (by kernel_rfl) (by decide) (fun _ _ _ h => h) (Or.inl ⟨by rfl, ?_⟩) ⟨Z.1, fun _ => Z.2 (by rfl)⟩ ?_;rotate_left
    ·intro w Y; (try dsimp only at Y); first | (go_simp; done) | (go_simp; with_reducible rfl)
    try simp only [Act.put, List.getElem_toArray, List.getElem_cons_zero, List.getElem_cons_succ, List.setIfInBounds_toArray, List.set_cons_zero, List.set_cons_succ]
    refine AnyL.take (i := 8) (oi := _) (v := ?_) rfl (by kernel_rfl) (by kernel_rfl) (by kernel_rfl) (by decide) (fun _ _ _ h => h) (Or.inl ⟨by rfl, ?_⟩) ⟨Z.1, fun _ => Z.2 (by rfl)⟩ ?_;rotate_left
    ·intro w Y; (try dsimp only at Y); first | (go_simp; done) | (go_simp; with_reducible rfl)
    try simp only [Act.put, List.getElem_toArray, List.getElem_cons_zero, List.getElem_cons_succ, List.setIfInBounds_toArray, List.set_cons_zero, List.set_cons_succ]
    refine AnyL.take (i := 9) (oi := _) (v := ?_) rfl (by kernel_rfl) (by kernel_rfl) (by kernel_rfl) (by decide) (fun _ _ _ h => h) (Or.inl ⟨by rfl, ?_⟩) ⟨Z.1, fun _ => Z.2 (by rfl)⟩ ?_;rotate_left
    ·intro w Y; (try dsimp only at Y); first | (go_simp; done) | (go_simp; with_reducible rfl)
    try simp only [Act.put, List.getElem_toArray, List.getElem_cons_zero, List.getElem_cons_succ, List.setIfInBounds_toArray, List.set_cons_zero, List.set_cons_succ]
    refine AnyL.take (i := 10) (oi := _) (v := ?_) rfl (by kernel_rfl) (by kernel_rfl) (by kernel_rfl) (by decide) (fun _ _ _ h => h) (Or.inl ⟨by rfl, ?_⟩) ⟨Z.1, fun _ => Z.2 (by rfl)⟩ ?_;rotate_left
    ·intro w Y; (try dsimp only at Y); first | (go_simp; done) | (go_simp; with_reducible rfl)
    try simp only [Act.put, List.getElem_toArray, List.getElem_cons_zero, List.getElem_cons_succ, List.setIfInBounds_toArray, List.set_cons_zero, List.set_cons_succ]
    refine AnyL.take (i := 11) (oi := _) (v := ?_) rfl (by kernel_rfl) (by kernel_rfl) (by kernel_rfl) (by decide) (fun _ _ _ h => h) (Or.inl ⟨by rfl, ?_⟩) ⟨Z.1, fun _ => Z.2 (by rfl)⟩ ?_;rotate_left
    ·intro w Y; (try dsimp only at Y); first | (go_simp; done) | (go_simp; with_reducible rfl)
    try simp only [Act.put, List.getElem_toArray, List.getElem_cons_zero, List.getElem_cons_succ, List.setIfInBounds_toArray, List.set_cons_zero, List.set_cons_succ]
    refine AnyL.take (i := 12) (oi := _) (v := ?_) rfl (by kernel_rfl) (by kernel_rfl) (by kernel_rfl) (by decide) (fun _ _ _ h => h) (Or.inl ⟨by rfl, ?_⟩) ⟨Z.1, fun _ => Z.2 (by rfl)⟩ ?_;rotate_left
    ·intro w Y; (try dsimp only at Y); first | (go_simp; done) | (go_simp; with_reducible rfl)
    try simp only [Act.put, List.getElem_toArray, List.getElem_cons_zero, List.getElem_cons_succ, List.setIfInBounds_toArray, List.set_cons_zero, List.set_cons_succ]
    refine AnyL.take (i := 13) (oi := _) (v := ?_) rfl (by kernel_rfl) (by kernel_rfl) (by kernel_rfl) (by decide) (fun _ _ _ h => h) (Or.inl ⟨by rfl, ?_⟩) ⟨Z.1, fun _ => Z.2 (by rfl)⟩ ?_;rotate_left
    ·intro w Y; (try dsimp only at Y); first | (go_simp; done) | (go_simp; with_reducible rfl)
    try simp only [Act.put, List.getElem_toArray, List.getElem_cons_zero, List.getElem_cons_succ, List.setIfInBounds_toArray, List.set_cons_zero, List.set_cons_succ]
    refine AnyL.take (i := 14) (oi := _) (v := ?_) rfl (by kernel_rfl) (by kernel_rfl) (by kernel_rfl) (by decide) (fun _ _ _ h => h) (Or.inl ⟨by rfl, ?_⟩) ⟨Z.1, fun _ => Z.2 (by rfl)⟩ ?_;rotate_left
    ·intro w Y; (try dsimp only at Y); first | (go_simp; done) | (go_simp; with_reducible rfl)
    try simp only [Act.put, List.getElem_toArray, List.getElem_cons_zero, List.getElem_cons_succ, List.setIfInBounds_toArray, List.set_cons_zero, List.set_cons_succ]
    refine AnyL.take (i := 15) (oi := _) (v := ?_) rfl (by kernel_rfl) (by kernel_rfl) (by kernel_rfl) (by decide) (fun _ _ _ h => h) (Or.inl ⟨by rfl, ?_⟩) ⟨Z.1, fun _ => Z.2 (by rfl)⟩ ?_;rotate_left
    ·intro w Y; (try dsimp only at Y); first | (go_simp; done) | (go_simp; with_reducible rfl)
    try simp only [Act.put, List.getElem_toArray, List.getElem_cons_zero, List.getElem_cons_succ, List.setIfInBounds_toArray, List.set_cons_zero, List.set_cons_succ]
    refine AnyL.one (i := 16) (o := _) (by kernel_rfl) rfl (fun K hK => ?_);go_simp
    (refine (yC.out _ (xq.out _ yo)).mono ?_; rintro e y1 ⟨_, rfl, rfl, hJ⟩; have zd := zbt yo hJ; have zl := WRA yv hJ)
    refine hK.out _ _ ⟨zz.out _ zd, fun hk => trivial⟩ (fun Z => ?_);clear hK K;try simp only [Act.put, List.getElem_toArray, List.getElem_cons_zero, List.getElem_cons_succ, List.setIfInBounds_toArray, List.set_cons_zero, List.set_cons_succ]
    refine AnyL.one (i := 17) (o := _) (by kernel_rfl) rfl (fun K hK => ?_);go_simp;refine hK.out _ _ ⟨zz.out _ (zd.alloc zd.size _), fun hk => trivial⟩ (fun Z => ?_);clear hK K;try simp only [Act.put, List.getElem_toArray, List.getElem_cons_zero, List.getElem_cons_succ, List.setIfInBounds_toArray, List.set_cons_zero, List.set_cons_succ]
    refine AnyL.one (i := 18) (o := _) (by kernel_rfl) rfl (fun K hK => ?_)
    (rw [if_pos (by simp [Region.wanted])]; refine wp_append_own _ (.tmp 184) (.tmp 201) 33 (by rfl) Zw.heap.size 55 i0 (.string ⟨#[]⟩) 1 16 Tryz.underlying33 js jH jI jJ rfl (by decide) _ _ _ (by simp [Act.eval]) (zl.alloc _) ⟨y1.heap.size, 0, none⟩ 1 1 [.string (RS df)] (by simp [Act.eval]) rfl (cos _ _ _) (ocs _) (by unfold maxLen; omega) (by omega) (by have := hJ.size; simp at this ⊢; omega) ?_; intro v8 w8 hA zP _; have jB := (zd.alloc zd.size (.cells #[.string (RS df)] 55)).grown zP (by have := zd.size; simp; omega) (fun k hk => by have := (zl.lt k hk).1; omega); have yU := ((ho.trans (((bdN wr 1).trans hJ).mono ho.size)).alloc (Nat.le_trans jK (hJ.size)) (.cells #[.string (RS df)] 55)).grown zP (by have := hJ.size; simp at this ⊢; omega) (fun k hk => (zl.lt k hk).1); obtain ⟨xH, c9, rfl, jS, jr, -⟩ := obk hA (by omega))
    refine hK.out _ _ ⟨zz.out _ jB, fun hk => trivial⟩ (fun Z => ?_);clear hK K;try simp only [Act.put, List.getElem_toArray, List.getElem_cons_zero, List.getElem_cons_succ, List.setIfInBounds_toArray, List.set_cons_zero, List.set_cons_succ]
    refine AnyL.take (i := 19) (oi := _) (v := ?_) rfl (by kernel_rfl) (by kernel_rfl) (by kernel_rfl) (by decide) (fun _ _ _ h => h) (Or.inl ⟨by rfl, ?_⟩) ⟨Z.1, fun hk => (by simp at hk)⟩ ?_;rotate_left
    ·intro w Y; (try dsimp only at Y); first | (go_simp; done) | (go_simp; with_reducible rfl)
    try simp only [Act.put, List.getElem_toArray, List.getElem_cons_zero, List.getElem_cons_succ, List.setIfInBounds_toArray, List.set_cons_zero, List.set_cons_succ]
    refine AnyL.done (by kernel_rfl) ?_ _;have zS : w8.ownsRow Zw.heap.size 55 1 (.slice (some ⟨xH, 0, none⟩) (q + 1) c9) (q + 1) (cFd (D.take (q + 1))) := by
     rw [xx.out];unfold cFd at hA ⊢;rw [List.map_append];exact hA
    have jQ : w8.cell? ⟨xH, q, none⟩ = some (.string (RS df)) := by
     have E := hA.cells rfl q (.string (RS df)) (by
      rw [List.getElem?_append_right (by unfold cFd; rw [List.length_map, List.length_take]; omega)];unfold cFd;rw [List.length_map, List.length_take, zy.out, Nat.min_eq_left (by omega), Nat.sub_self];rfl)
     rw [aps, Nat.zero_add] at E;exact E
    clear yv zl zP hJ zd yo zz yC xq hA;by_cases he : u = l
    ·obtain ⟨h1, gQ, rfl, h3, h4, E⟩ := vQ.out he
     have e0 : RS df = ⟨#[48]⟩ := by rw [xo.out, he, Rat.sub_self]; exact RS_zero
     rw [e0] at jQ;have zB := hid E;have xQ := zcq yU h3 h4;have ki : (m : Int) < (mQ : Int) := by omega
     have ju : ¬ mQ <= m := by omega
     have kg : decide (mQ <= m) = false := decide_eq_false ju;clear h4 E he e0;go_wp2_with fail;go_roundw
     case rel => exact ⟨q + 1, m + 1, by go_num, by go_num, by omega, zB.out, zS, yU⟩
     case measure =>
      show P.length - ((q : Int) + 1).toNat < P.length - (q : Int).toNat;omega
    ·have vo : RS df ≠ ⟨#[48]⟩ := fun e => by
      rw [<- RS_zero] at e;have := Rij e;rw [xo.out] at this;exact he (by grind)
     have zB := hid (vR.out he);rcases bdr (RS df) ⟨#[48]⟩ with ⟨e1, -⟩ | ⟨-, e2⟩
     ·exact absurd e1 vo
     rcases bse (RS df) ⟨#[48]⟩ with ⟨e1, -⟩ | ⟨-, e3, e4⟩
     ·exact absurd e1 vo
     have xG : (⟨#[48]⟩ : ByteArray).toList = [48] := by rw [btL]
     rw [xG] at e3 e4;generalize RS df = sd at *;have e5 : (!sd.toList == [48]) = true := by rw [e3]; rfl
     clear he e2 xG;go_wp2_with fail;go_roundw
     case rel => exact ⟨q + 1, m, by go_num, rfl, by omega, zB.out, zS, yU⟩
     case measure =>
      show P.length - ((q : Int) + 1).toNat < P.length - (q : Int).toNat;omega
   ·obtain rfl : q = P.length := by omega
    have ke : ¬ (P.length : Int) < (P.length : Int) := by omega
    rw [List.take_of_length_le (by rw [zy.out]; exact Nat.le_refl _)] at hM;have jv : m = mQ := by have := HM.out; have := xs.out; omega
    subst jv;have hW : FldV wr Zw.heap.size (.slice xh P.length y8) D := by unfold FldV; rw [zy.out]; exact hM
    have xC : Hid (RdQ wr (.slice xh P.length y8) D) := hW.rd;obtain ⟨zF, yp, jR, xF, zh, zK⟩ := xC.out.cells (by rw [zy.out]; exact zk);rw [zy.out] at xF zK;injection xF with e1 e2 e3
    clear e2;subst e1 e3;have zx := hid zK;have xt : Hid (RdQ wr (.slice pT P.length cT) D) := RdC.below vS.out ho;obtain ⟨bp, op, jW, ep, za, v7⟩ := RdP.cells hw.out.p zk;injection ep with e1 e2 e3
    clear e2;subst e1 e3;have yw := hid v7;have jD : RS (sumD P T D 0) = ⟨#[48]⟩ := RS_zero;have vU := hid jD;have jL := kM.lt;have vL : Hid (RdT X (.slice pt T.length ct) T) := hw.out.t;have hL : Hid (∀ z : Int, SzP 2 (ptI P z)) := fun z => pIs (fun p hp => xr.out.sz p hp) (by omega) z
    obtain ⟨wv, jG⟩ : ∃ x : World, x = wr := ⟨_, rfl⟩;subst jG;clear hM hW zK v7;go_wp2_with fail;go_loopw [25, 26] (fun t25 t26 wq => ∃ t : Nat, t26 = .int .i64 t /\ t <= T.length /\ t25 = .string (RS (sumD P T D t)) /\ Below wv.heap.size wv wq) (fun _ t26 _ => T.length - (RowKit.intOf t26).toNat)
    case atStart => exact ⟨0, rfl, Nat.zero_le _, by rw [vU.out], Below.refl _ _⟩
    case round =>
     obtain ⟨t, rfl, jC, rfl, zJ⟩ := hrel;have ya := zbt yP zJ;have xP := zbt jh zJ;have vA := kM.below zJ jL;obtain ⟨L, N⟩ := zk2 vA;rcases Nat.lt_or_ge t T.length with ht | ht
     ·have km : (t : Int) < (T.length : Int) := by omega
      obtain ⟨bt, ot, jX, et, yV, v9⟩ := vL.out.cells (by omega);injection et with e1 e2 e3
      clear e2;subst e1 e3;obtain ⟨t0, t1, t2⟩ := v9 t ht;have z5 : ∀ x ∈ idxOf (triI T t), 0 <= x /\ x < (P.length : Int) := by rw [tIn T t ht]; exact xr.out.idx _ (List.getElem_mem ht)
      have yE : Hid (sumD P T D (t + 1) = sumD P T D t + areaQ (ptI P (triI T t).1) (ptI P (triI T t).2.1) (ptI P (triI T t).2.2) * tSm D (triI T t)) := rfl;have y7 : Hid (Sz 21 (areaQ (ptI P (triI T t).1) (ptI P (triI T t).2.1) (ptI P (triI T t).2.2))) := (aQS (hL.out _) (hL.out _) (hL.out _)).mono (by omega);have yG : Hid (Sz 13 (tSm D (triI T t))) := (tSS (by omega) xp.out _).mono (by omega);have vV : Hid (Sz 10 (sumD P T D t)) := xv.out t jC;have y4 := hid fun w hg => lay (ptI P (triI T t).1) (ptI P (triI T t).2.1) (ptI P (triI T t).2.2) 2 (by omega) (by omega) (hL.out _) (hL.out _) (hL.out _) w hg
      have zC : Hid (∀ (v : Value) (w : World), RdQ w v [hI D (triI T t).1, hI D (triI T t).2.1, hI D (triI T t).2.2] -> Good w -> Calls Tryz.prog 26 #[v] w (Ret (fun r _ => r = .string (RS (tSm D (triI T t)))) w)) := fun v w hr hg => rb0 _ 3 (by omega) (by simp) (by
       intro q hq;simp only [List.mem_cons, List.not_mem_nil, or_false] at hq;rcases hq with rfl | rfl | rfl <;> exact hI_Sz (by omega) xp.out _) v w hr hg
      obtain ⟨⟨xc, xd, xe⟩, yu⟩ : ∃ x, x = triI T t := ⟨_, rfl⟩;rw [<- yu] at t0 t1 t2 z5 yE y7 yG y4 zC;dsimp only at t0 t1 t2 yE y7 y4 zC;obtain ⟨vW, vX⟩ := z5 xc (by simp [idxOf]);obtain ⟨vY, vZ⟩ := z5 xd (by simp [idxOf]);obtain ⟨j1, j2⟩ := z5 xe (by simp [idxOf]);obtain ⟨h7, rfl⟩ : ∃ q : Nat, xc = (q : Int) := ⟨xc.toNat, by omega⟩;obtain ⟨h8, rfl⟩ : ∃ q : Nat, xd = (q : Int) := ⟨xd.toNat, by omega⟩;obtain ⟨h9, rfl⟩ : ∃ q : Nat, xe = (q : Int) := ⟨xe.toNat, by omega⟩;obtain ⟨j6, j7⟩ := yw.out h7 (by omega);obtain ⟨j8, j9⟩ := yw.out h8 (by omega);obtain ⟨ja, jb⟩ := yw.out h9 (by omega);have jc := zx.out h7 (by omega);have jd := zx.out h8 (by omega);have je := zx.out h9 (by omega);have vF := hid fun w hg => rAa (sumD P T D t) (areaQ (ptI P (h7 : Int)) (ptI P (h8 : Int)) (ptI P (h9 : Int)) * tSm D ((h7 : Int), (h8 : Int), (h9 : Int))) 40 (by omega) (by omega) (vV.out.mono (by omega)) ((y7.out.mul yG.out).mono (by omega)) w hg
      have y3 := hid fun w hg => rMa (areaQ (ptI P (h7 : Int)) (ptI P (h8 : Int)) (ptI P (h9 : Int))) (tSm D ((h7 : Int), (h8 : Int), (h9 : Int))) 40 (by omega) (by omega) (y7.out.mono (by omega)) (yG.out.mono (by omega)) w hg
      unfold VP at y4;generalize tSm D ((h7 : Int), (h8 : Int), (h9 : Int)) = ts at *;generalize areaQ (ptI P (h7 : Int)) (ptI P (h8 : Int)) (ptI P (h9 : Int)) = ar at *;generalize ptI P (h7 : Int) = c0 at *;generalize ptI P (h8 : Int) = c1 at *;generalize ptI P (h9 : Int) = c2 at *;generalize hI D (h7 : Int) = h0 at *;generalize hI D (h8 : Int) = h1 at *;generalize hI D (h9 : Int) = h2 at *;have y0 := zcq ya yV t0;have y1 := zcq ya yV t1;have y2 := zcq ya yV t2;have r0 : (h7 : Int) < (P.length : Int) := by omega
      have r1 : (h8 : Int) < (P.length : Int) := by omega
      have r2 : (h9 : Int) < (P.length : Int) := by omega
      clear z5 yu vW vX vY vZ j1 j2 t0 t1 t2 v9;obtain ⟨wo, jF⟩ : ∃ x : World, x = wr := ⟨_, rfl⟩;subst jF;go_upto_region 37 with fail;obtain ⟨V, hV⟩ := zex (wo.alloc (.cells #[.int .i64 (h7 : Int), .int .i64 (h8 : Int), .int .i64 (h9 : Int)] 70));have yj : Below wo.heap.size wo V := by rw [hV]; exact zal _ _
      have bT : BoxN V wo.heap.size 70 [.int .i64 (h7 : Int), .int .i64 (h8 : Int), .int .i64 (h9 : Int)] := by rw [hV]; exact BoxN.new _ _ _ _ rfl
      rw [<- hV];clear hV L N y0 y1 y2;have jn := zbt zJ yj;have z8 := zbt ya yj;have xS := zbt xP yj;have vB := vA.bl yj;have L := vB.cell 0 rfl;obtain ⟨v0, v1, v2⟩ := zk3 bT;have xi := zcq z8 za j6;have xj := zcq z8 za j7;have xk := zcq z8 za j8;have xl := zcq z8 za j9;have xm := zcq z8 za ja;have xn := zcq z8 za jb;have R : Good V.drew := (hg.below xS).drewN 1;have lk := vB.lt;have lT := bT.lt;have lP : bp < V.heap.size := Nat.lt_of_lt_of_le za z8.size;go_region_held3 (fun w' => w'.cell? ⟨g6, 0, none⟩ = some (.slice (some ⟨bp, op, none⟩) P.length cp) /\ w'.cell? ⟨wo.heap.size, 0, none⟩ = some (.int .i64 (h7 : Int)) /\ w'.cell? ⟨wo.heap.size, 1, none⟩ = some (.int .i64 (h8 : Int)) /\ w'.cell? ⟨wo.heap.size, 2, none⟩ = some (.int .i64 (h9 : Int)) /\ w'.cell? ⟨bp, op + h7 * 2, none⟩ = some (.string (RS c0.1)) /\ w'.cell? ⟨bp, op + h7 * 2 + 1, none⟩ = some (.string (RS c0.2)) /\ w'.cell? ⟨bp, op + h8 * 2, none⟩ = some (.string (RS c1.1)) /\ w'.cell? ⟨bp, op + h8 * 2 + 1, none⟩ = some (.string (RS c1.2)) /\ w'.cell? ⟨bp, op + h9 * 2, none⟩ = some (.string (RS c2.1)) /\ w'.cell? ⟨bp, op + h9 * 2 + 1, none⟩ = some (.string (RS c2.2)))
       (first | exact ⟨L, v0, v1, v2, xi, xj, xk, xl, xm, xn⟩ | exact ⟨p_1_0, p_1_1, p_1_2, p_1_3, p_1_4, p_1_5, p_1_6, p_1_7, p_1_8, p_1_9⟩)
       (first
       | (go_at_call 24; refine (y4.out _ R).mono ?_; rintro e hC ⟨_, rfl, rfl, hs⟩
          have p_1_0 := zct hs L;have p_1_1 := zct hs v0;have p_1_2 := zct hs v1;have p_1_3 := zct hs v2;have p_1_4 := zct hs xi;have p_1_5 := zct hs xj;have p_1_6 := zct hs xk;have p_1_7 := zct hs xl;have p_1_8 := zct hs xm;have p_1_9 := zct hs xn;have jO : V.heap.size <= hC.heap.size := hs.size;have jN := R.below hs))
      have pB : Below V.heap.size V hC := zbt (bdN V 1) hs;have z4 := zbt jn pB;have xO := zbt xS pB;have xD := bT.bl pB;have f0 := zcq z4 zh jc;have f1 := zcq z4 zh jd;have f2 := zcq z4 zh je;obtain ⟨zU, zV, zW⟩ := zk3 xD;have ys : Good hC.drew := (hg.below xO).drewN 1;have ks := xD.lt;have lF : zF < hC.heap.size := Nat.lt_of_lt_of_le zh z4.size;clear L v0 v1 v2 xi xj xk xl xm xn R lk lT lP hs jO jN p_1_0 p_1_1 p_1_2 p_1_3 p_1_4 p_1_5 p_1_6 p_1_7 p_1_8 p_1_9;go_upto_region 38 with fail;go_region_held3 (fun w' => w'.cell? ⟨wo.heap.size, 0, none⟩ = some (.int .i64 (h7 : Int)) /\ w'.cell? ⟨wo.heap.size, 1, none⟩ = some (.int .i64 (h8 : Int)) /\ w'.cell? ⟨wo.heap.size, 2, none⟩ = some (.int .i64 (h9 : Int)) /\ w'.cell? ⟨zF, yp + h7, none⟩ = some (.string (RS h0)) /\ w'.cell? ⟨zF, yp + h8, none⟩ = some (.string (RS h1)) /\ w'.cell? ⟨zF, yp + h9, none⟩ = some (.string (RS h2)))
       (first | with_reducible exact ⟨zU, zV, zW, f0, f1, f2⟩ | with_reducible exact ⟨(cal _ zU), (cal _ zV), (cal _ zW), (cal _ f0), (cal _ f1), (cal _ f2)⟩ | with_reducible exact ⟨r_1_0, r_1_1, r_1_2, r_1_3, r_1_4, r_1_5⟩ | with_reducible exact ⟨r_2_0, r_2_1, r_2_2, r_2_3, r_2_4, r_2_5⟩ | with_reducible exact ⟨r_3_0, r_3_1, r_3_2, r_3_3, r_3_4, r_3_5⟩ | exact ⟨zU, zV, zW, f0, f1, f2⟩ | exact ⟨(cal _ zU), (cal _ zV), (cal _ zW), (cal _ f0), (cal _ f1), (cal _ f2)⟩ | exact ⟨r_1_0, r_1_1, r_1_2, r_1_3, r_1_4, r_1_5⟩ | exact ⟨r_2_0, r_2_1, r_2_2, r_2_3, r_2_4, r_2_5⟩ | exact ⟨r_3_0, r_3_1, r_3_2, r_3_3, r_3_4, r_3_5⟩)
       (first
       | (go_at_call 16; refine (vF.out _ vD).mono ?_; rintro e jP ⟨_, rfl, rfl, hS⟩
          have r_3_0 := zct hS r_2_0;have r_3_1 := zct hS r_2_1;have r_3_2 := zct hS r_2_2;have r_3_3 := zct hS r_2_3;have r_3_4 := zct hS r_2_4;have r_3_5 := zct hS r_2_5;have kx := hS.size;have ku := vD.below hS)
       | (go_at_call 25; refine (y3.out _ vC).mono ?_; rintro e ky ⟨_, rfl, rfl, hQ⟩
          have r_2_0 := zct hQ r_1_0;have r_2_1 := zct hQ r_1_1;have r_2_2 := zct hQ r_1_2;have r_2_3 := zct hQ r_1_3;have r_2_4 := zct hQ r_1_4;have r_2_5 := zct hQ r_1_5;have kw := hQ.size;have vD := vC.below hQ)
       | (go_at_call 26; refine (zC.out _ _ (RdQ.fresh hC.drew [h0, h1, h2] _ _ rfl (by simp) 3 rfl _ rfl) (ys.alloc _)).mono ?_; rintro e vE ⟨_, rfl, rfl, rb1_⟩
          have hO : Below hC.drew.heap.size hC.drew vE := ((Below.refl _ _).alloc (Nat.le_refl _) _).trans (rb1_.mono (by simp));have r_1_0 := zct hO zU;have r_1_1 := zct hO zV;have r_1_2 := zct hO zW;have r_1_3 := zct hO f0;have r_1_4 := zct hO f1;have r_1_5 := zct hO f2;have kv : hC.heap.size <= vE.heap.size := hO.size;have vC := ys.below hO))
      have rB : Below hC.heap.size hC jP := zbt (zbt (zbt (bdN hC 1) hO) hQ) hS;have yW := zbt z4 rB;go_wp2_with fail;go_roundw
      case rel => exact ⟨t + 1, by go_num, by omega, by rw [yE.out], yW⟩
      case measure =>
       show T.length - ((t : Int) + 1).toNat < T.length - (t : Int).toNat;omega
     ·obtain rfl : t = T.length := by omega
      have jT : ¬ (T.length : Int) < (T.length : Int) := by omega
      have yD : Hid (∀ w', Below wv.heap.size wv w' -> Calls Tryz.prog 19 #[.slice pT P.length cT, .slice (some ⟨zF, yp, none⟩) P.length y8] w' (Ret (fun r _ => r = .bool true) w')) := fun w' hb => by
       have E := sFa _ _ _ _ w' (RdQ.toS (RdC.below xt.out hb)) (RdQ.toS (RdC.below xC.out hb));rw [decide_eq_true rfl] at E;exact E
      have y3 := hid fun w hg => rMa (sumD P T D T.length) (1 / 6) 20 (by omega) (by omega) ((xv.out _ (Nat.le_refl _)).mono (by omega)) (sixth_Sz.mono (by omega)) w hg
      rw [Rsh] at y3;generalize RS (sumD P T D T.length * (1 / 6)) = sv at *;generalize RS (sumD P T D T.length) = sd at *;go_wp2_with fail;refine zR (yD.out wr zJ) fun w2 hb2 => ?_;have xR := zbt xP hb2;go_wp2_with fail;refine zR (y3.out w2 (hg.below xR)) fun w3 hb3 => ?_;go_wp2_with fail;go_ret;exact ⟨_, rfl, rfl, (zbt xR hb3)⟩
end Go.Proofs.YtmcbeajdloaliaaGreatDoor
