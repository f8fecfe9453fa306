import Derived.Test.YtlodicfimpgibaaGreatDoorZS62
import Derived.Test.YtlodicfimpgibaaGreatDoorZS48
/- What Log returns at a place of a plan's deposit, in the sheet or out of it. klippelaw28.StackLogs. -/
set_option maxHeartbeats 8000000
set_option maxRecDepth 100000
namespace Go.Proofs.YtlodicfimpgibaaGreatDoor
open Go.RowKit Go.Lib
theorem plg {w : World} {pp pt pb pu ps : Option Addr} {cp ct cb cu cs : Nat} {P : List PtQ} {T : List Tri} {B : List Rat} {U : List ByteArray} {H : List StepQ} {n : Nat} (o : MeshOK P T 2) (m : n <= 3) (O : B.length = P.length) (E : U.length = n + 1) (G : ∀ u ∈ U, u ≠ ⟨#[]⟩)
 (h : DepN w (.slice pp P.length cp) (.slice pt T.length ct) (.slice pb P.length cb) (.slice pu U.length cu) (.slice ps n cs) P T 3 B U (sTo P.length B H n)) (A : ∀ p ∈ P, FrP 2 26 p) (N : ∀ F ∈ B :: sTo P.length B H n, ∀ q ∈ F, Fr 2 152 q) (p : PtQ) (z : Rat) (C : SzP 20 p) (y : FrP 8 312 p) (s : Sz 9 z) :
 ∃ (Y : Bool) (Q : Int) (R : List Itv) (L : List Rat),
  (∀ w', Below w.heap.size w w' -> Good w' -> Calls Tryz.prog 12 #[.agg #[.slice pp P.length cp, .slice pt T.length ct], .agg #[.slice pb P.length cb, .slice pu U.length cu, .slice ps n cs], .agg #[.string (RS p.1), .string (RS p.2), .string (RS z)]] w' (Ret (fun r V => ∃ v, r = .tuple #[v, .int .i64 Q] /\ V.ownsRow w'.heap.size 66 3 v R.length (cIv R)) w')) /\
  (∀ w', Below w.heap.size w w' -> Good w' -> Calls Tryz.prog 10 #[.agg #[.slice pp P.length cp, .slice pt T.length ct], .agg #[.string (RS p.1), .string (RS p.2)]] w' (Ret (fun r _ => r = .tuple #[.bool Y, .int .i64 0]) w')) /\
  ((Y = false /\ Q = 28 /\ R = []) \/ (Y = true /\ Q = 0 /\ R = logL U L z /\ L.length = n + 1 /\ (∀ q ∈ L, Sz 9 q) /\
    ∀ w', Below w.heap.size w w' -> Good w' -> Calls Tryz.prog 18 #[.agg #[.slice pp P.length cp, .slice pt T.length ct], .agg #[.slice pb P.length cb, .slice pu U.length cu, .slice ps n cs], .agg #[.string (RS p.1), .string (RS p.2), .string (RS z)]] w' (Ret (fun r V => ∃ vh, r = .tuple #[.int .i64 ((cHH L z : Int) - 1), vh] /\ RdQ V vh L) w'))) := by
 have Z : SzP 200 p := ⟨C.1.mono (by omega), C.2.mono (by omega)⟩;have X : ∀ w', Below w.heap.size w w' -> Good w' -> _ := fun w' hb hg' => cok w' _ _ P T 3 (h.below hb).p (h.below hb).t h.m p Z hg';cases hl : locN P T p T.length with
 | nil =>
   have S : ∀ w', Below w.heap.size w w' -> Good w' -> _ := fun w' hb hg' => cPo w' _ _ _ _ _ P T 3 B U _ (h.below hb) p z Z (s.mono (by omega)) hg'
   rw [hl] at X S;refine ⟨false, 28, [], [], fun w' hb hg' => ?_, fun w' hb hg' => X w' hb hg', .inl ⟨rfl, rfl, rfl⟩⟩;refine (ler w' _ _ _ _ _ pp pt pb pu ps _ _ _ _ _ cp ct cb cu cs rfl rfl rfl rfl rfl _ _ _ 28 (by decide) (hid fun V hb2 hg2 => S V ((zbt hb hb2)) hg2) hg').mono ?_;rintro e V ⟨r, rfl, rfl, D⟩;exact ⟨_, rfl, ⟨_, rfl, World.ownsRow_nil _ _ _ _⟩, D⟩
 | cons x l =>
   obtain ⟨t, rfl⟩ : ∃ t : Nat, x = (t : Int) := by
    have hx : x ∈ locN P T p T.length := by rw [hl]; simp
    unfold locN at hx;obtain ⟨t, _, rfl⟩ := List.mem_map.1 hx;exact ⟨t, rfl⟩
   obtain ⟨L, K, J, -, -, M, I, -, -⟩ := pin o m O E G h A N p z C y s hl;rw [hl, show decide ((0 : Int) < (((t : Int) :: l).length : Int)) = true from decide_eq_true (by simp)] at X;exact ⟨true, 0, _, L, M, fun w' hb hg' => X w' hb hg', .inr ⟨rfl, rfl, rfl, K, J, I⟩⟩
open Go.Shelf
theorem row3 {w : World} {B e n i : Nat} {v : Value} {xs : List Value} {x0 x1 x2 : Value} (h : w.ownsRow B e 3 v n xs) (N : 0 < n) (V : xs[i * 3]? = some x0) (R : xs[i * 3 + 1]? = some x1) (Q : xs[i * 3 + 2]? = some x2) :
 ∃ g c, v = .slice (some ⟨g, 0, none⟩) n c /\ g < w.heap.size /\ w.cell? ⟨g, i * 3, none⟩ = some x0 /\ w.cell? ⟨g, i * 3 + 1, none⟩ = some x1 /\ w.cell? ⟨g, i * 3 + 2, none⟩ = some x2 := by
 have O := fun (g : Nat) (hg : v.ownBlock = some g) => h.cells hg;have Y := h.lt;rcases h.2 with ⟨-, V⟩ | ⟨g, c, S, X, -⟩
 ·omega
 ·have e : ∀ j, (⟨g, 0, none⟩ : Addr).add j = ⟨g, j, none⟩ := fun j => by cases j <;> simp [Addr.add]
  have U : v.ownBlock = some g := by rw [X]; rfl
  have Z := O g U;simp only [e] at Z;exact ⟨g, c, X, (Y g U).2, Z _ _ V, Z _ _ R, Z _ _ Q⟩
def lgK (U : List ByteArray) (L : List Rat) (z : Rat) (k : Nat) : List Itv × Rat := logTo U L z (bwd L.length k)
theorem lKn (U : List ByteArray) (L : List Rat) (z : Rat) (k i : Nat) (h : L.length - 1 - k = i) : lgK U L z (k + 1) = lSp U L z (lgK U L z k) i := by
 unfold lgK;rw [bsc, lTs, h]
theorem sLa (w : World) (kz D C : Int) (Y : Bool) (a0 a1 a2 a3 a4 a5 : Int) (ah : Bool) (vh : Value) (H : List StepQ) (x y ht : Int)
 (zp : 0 <= kz) (yc : kz <= 255) (zr : -128 <= D /\ D <= 127) (zs : -128 <= C /\ C <= 127) (ha : ∀ x ∈ [a0, a1, a2, a3, a4, a5], -128 <= x /\ x <= 127) (hH : RdSt w vh H) (hx : -128 <= x /\ x <= 127) (hy : -128 <= y /\ y <= 127) (yD : -32768 <= ht /\ ht <= 32767) (O : Good w) :
 Calls Tryz.prog 5 #[.agg #[.int .u8 kz, .int .i8 D, .int .i8 C, .bool Y, .int .i8 a0, .int .i8 a1, .int .i8 a2, .int .i8 a3, .int .i8 a4, .int .i8 a5, .bool ah, vh], .agg #[.int .i8 x, .int .i8 y], .int .i16 ht] w (Ret (fun r _ => r = .bool true) w) := by
 obtain ⟨kk, yd⟩ : ∃ k : Nat, kz.tmod 8 = (k : Int) := ⟨(kz.tmod 8).toNat, by have := Int.tmod_nonneg 8 zp; omega⟩;have hS : Hid (H.length <= 3 -> ∀ w', Below w.heap.size w w' -> Good w' -> _) := fun h3 w' hbw O => m2n w' kz D C Y kk yd zp yc zr zs a0 a1 a2 a3 a4 a5 ah ha vh H (hH.below hbw) h3 O;have ys : Hid (∀ w', Good w' -> _) := fun w' O => p4a w' kz D C Y x y zr zs hx hy O;have yu : Hid (∀ w', Good w' -> _) := fun w' O => rOa ht 4 ht 4 4 rfl (by omega) (by omega) (by omega) (.inl ⟨rfl, rfl⟩) w' O
 have yh : SzP 20 (pBB 4 D Y x, pBB 4 C Y y) := ⟨(pBS 4 (by omega) (by omega) D Y x hx).mono (by omega), (pBS 4 (by omega) (by omega) C Y y hy).mono (by omega)⟩;have yl : Sz 9 (mkRat ht 4) := (Sz.mkRat (k := 5) (by omega) (by omega) (by omega)).mono (by omega);have ya : FrP 8 312 (pBB 4 D Y x, pBB 4 C Y y) := ⟨fPp D Y x hx, fPp C Y y hy⟩;have yp := hid ya;have yt := hid yh;have hn := hid yl;generalize pBB 4 D Y x = px at *;generalize pBB 4 C Y y = py at *;generalize mkRat ht 4 = z at *;clear yh yl ya;obtain ⟨p1, c1, rfl, yA, yB, -⟩ := hH.1;unfold maxLen at yB;clear hH ha zp yc zr zs hx hy yd;obtain ⟨t, ye⟩ : ∃ n, n = H.length := ⟨_, rfl⟩;rw [<- ye] at yA hS ⊢;clear ye;have hY : Hid (∀ w', _) := fun w' => fd0 w' kz D C Y a0 a1 a2 a3 a4 a5 ah p1 t c1 (by omega)
 obtain ⟨f1, hf⟩ : ∃ f, f = decide (t <= 3) := ⟨_, rfl⟩;rw [<- hf] at hY;have yo : Hid (f1 = true -> t <= 3) := fun h => of_decide_eq_true (hf.symm.trans h);clear hf;go_enter Tryz.func5, Tryz.ntmps5;go_wp2_with fail;obtain ⟨W, hW⟩ := zex ((w.alloc (.cells #[.int .u8 kz, .int .i8 D, .int .i8 C, .bool Y, .int .i8 a0, .int .i8 a1, .int .i8 a2, .int .i8 a3, .int .i8 a4, .int .i8 a5, .bool ah, .slice p1 t c1] 31)).alloc (.cells #[.int .i8 x, .int .i8 y] 23));have hB : Below w.heap.size w W := by rw [hW]; exact zal2 _ _ _
 have bx : BoxN W w.heap.size 31 [.int .u8 kz, .int .i8 D, .int .i8 C, .bool Y, .int .i8 a0, .int .i8 a1, .int .i8 a2, .int .i8 a3, .int .i8 a4, .int .i8 a5, .bool ah, .slice p1 t c1] := by
  rw [hW];exact (BoxN.new w #[.int .u8 kz, .int .i8 D, .int .i8 C, .bool Y, .int .i8 a0, .int .i8 a1, .int .i8 a2, .int .i8 a3, .int .i8 a4, .int .i8 a5, .bool ah, .slice p1 t c1] 31 _ rfl).alloc _
 have zK : BoxN W (w.heap.size + 1) 23 [.int .i8 x, .int .i8 y] := by rw [hW]; exact BoxN.new _ _ _ _ (by simp)
 rw [<- hW];clear hW;refine zR (k2a W (O.below hB)) fun o1 hb1 => ?_;have zT := zbt hB hb1;have hZ := bx.bl hb1;have zJ := zK.bl hb1;clear hb1 hB bx zK;obtain ⟨k0, k1, k2, k3, k4, k5, k6, k7, k8, k9, zv, zw⟩ := zk12 hZ;go_wp2_with fail;refine zR (hY.out o1) fun o3 hb2 => ?_;have c := zbt zT hb2;have z0 := hZ.bl hb2;have zL := zJ.bl hb2;clear hb2 zT hZ zJ k0 k1 k2 k3 k4 k5 k6 k7 k8 k9 zv zw hY;cases hf : f1
 ·go_wp2_with fail
  refine zR (k2a o3 (O.below c)) fun o4 a => ?_;go_wp2_with fail;go_ret;exact ⟨_, rfl, rfl, (zbt c a)⟩
 obtain ⟨k0, k1, k2, k3, k4, k5, k6, k7, k8, k9, zv, zw⟩ := zk12 z0;go_wp2_with fail;refine (hS.out (yo.out hf) o3 c (O.below c)).mono ?_;rintro e o4 ⟨_, rfl, ⟨pp, cp, pt, ct, pb, cb, pu, cu, ps, cs, P, T, B, H0, U, n, rfl, hP, hT, yI, zX, zi, hD, zZ⟩, a⟩;have yx := zbt c a;have zH := z0.bl a;have zM := zL.bl a;clear a c z0 zL k0 k1 k2 k3 k4 k5 k6 k7 k8 k9 zv zw hS;have h2 : MeshOK P T 2 := by rw [hP, hT]; exact sok kk D C Y
 have y6 : ∀ u ∈ U, u ≠ ⟨#[]⟩ := by rw [zi]; exact uTf _
 have hr : U.length = n + 1 := by rw [zi, uTl]
 have yg : ∀ p ∈ P, FrP 2 26 p := by rw [hP]; exact fg0 _ _ _ _
 obtain ⟨yW, ez, IL, L, y0, zY, y8⟩ := plg h2 yI zX hr y6 hD yg zZ (px, py) z yt.out yp.out hn.out;have hR := hid y0;have hL := hid zY;have hM := hid y8;have y7 : eNm (allQ [⟨#[48]⟩, ⟨#[]⟩, ⟨#[49]⟩]) = 2 := by decide +kernel
 have hO : Hid (∀ w', Below o4.heap.size o4 w' -> Good w' -> _) := fun w' hb hg' => ler w' _ _ _ _ _ pp pt pb pu ps P.length T.length P.length U.length n cp ct cb cu cs rfl rfl rfl rfl rfl ⟨#[48]⟩ ⟨#[]⟩ ⟨#[49]⟩ 2 (by decide) (hid fun w2 hb2 hg2 => cPn w2 _ _ _ _ _ P T 3 B U _ (hD.below ((zbt hb hb2))) _ _ _ (by decide) (by decide) (by decide) y7 hg2) hg'
 obtain ⟨x4, yY, eu, -, yC, yi⟩ := hD.unit.open;have hX : Hid (∃ b o, pu = some ⟨b, o, none⟩ /\ b < o4.heap.size /\ ∀ kn, kn < U.length -> o4.cell? ⟨b, o + kn, none⟩ = some (.string (U[kn]?.getD ⟨#[]⟩))) := by
  injection eu with e1 _ _
  obtain ⟨b, o, e2, h3, h4⟩ := yi (List.ne_nil_of_length_pos (by omega));refine ⟨b, o, e1.trans e2, h3, fun kn hkn => ?_⟩;rw [h4 kn hkn, List.getElem?_eq_getElem hkn];rfl
 unfold maxLen at yC;clear hP hT zi zY y0 y8 y7 eu yi hD h2 y6 zX yg zZ;obtain ⟨nP, hs⟩ : ∃ k, k = P.length := ⟨_, rfl⟩;obtain ⟨nT, hu⟩ : ∃ k, k = T.length := ⟨_, rfl⟩;obtain ⟨J, hv⟩ : ∃ k, k = U.length := ⟨_, rfl⟩;rw [<- hs, <- hu, <- hv] at hR hM hO;rw [<- hu, <- hs] at hL;rw [<- hv] at hX hr;rw [<- hv, <- hu, <- hs];have zA := hid hr;have yV : J <= 4 := by omega
 clear hv hu hs hr;go_upto_region 4 with fail;obtain ⟨o5, hl⟩ : ∃ W, W = (o4.alloc (.cells #[.slice pp nP cp, .slice pt nT ct] 38)).alloc (.cells #[.slice pb nP cb, .slice pu J cu, .slice ps n cs] 44) := ⟨_, rfl⟩;have h9 : Below o4.heap.size o4 o5 := by rw [hl]; exact zal2 _ _ _
 obtain ⟨g6, zl⟩ : ∃ g, g = o4.heap.size := ⟨_, rfl⟩;obtain ⟨g7, zm⟩ : ∃ g, g = o4.heap.size + 1 := ⟨_, rfl⟩;have cM : BoxN o5 g6 38 [.slice pp nP cp, .slice pt nT ct] := by rw [hl]; exact (BoxN.new _ _ _ _ zl.symm).alloc _
 have cD : BoxN o5 g7 44 [.slice pb nP cb, .slice pu J cu, .slice ps n cs] := by rw [hl]; exact BoxN.new _ _ _ _ (by simp [zm])
 have zc := zbt yx h9;have zI := zH.bl h9;have zN := zM.bl h9;rw [<- hl, <- zm, <- zl];clear hl zl zm zH zM;obtain ⟨k0, k1, k2, k3⟩ := zk4 zI;obtain ⟨l0, l1⟩ := zk2 zN;go_wp2_with fail;refine zR (ys.out o5 (O.below zc)) fun o6 hb6 => ?_;have zO := zbt h9 hb6;have zU := zbt zc hb6;have dM := cM.bl hb6;have dD := cD.bl hb6;clear hb6 h9 zc cM cD k0 k1 k2 k3 l0 l1 zI zN;go_upto_region 5 with fail;obtain ⟨o7, hw⟩ : ∃ W, W = o6.alloc (.cells #[.string (RS px), .string (RS py)] 49) := ⟨_, rfl⟩;have hc : Below o6.heap.size o6 o7 := by rw [hw]; exact zal _ _
 obtain ⟨g9, zn⟩ : ∃ g, g = o6.heap.size := ⟨_, rfl⟩;have eP : BoxN o7 g9 49 [.string (RS px), .string (RS py)] := by rw [hw]; exact BoxN.new _ _ _ _ zn.symm
 have zP := zbt zO hc;have zd := zbt zU hc;have fM := dM.bl hc;have fD := dD.bl hc;rw [<- hw, <- zn];clear hw zn hc zO zU dM dD;obtain ⟨yR, yS⟩ := yD;go_wp2_with fail;refine zR (yu.out o7 (O.below zd)) fun o9 hb9 => ?_;have zQ := zbt zP hb9;have zV := zbt zd hb9;have gM := fM.bl hb9;have gD := fD.bl hb9;have gP := eP.bl hb9;clear hb9 zP zd fM fD eP;obtain ⟨x0, x1⟩ := zk2 gP;go_upto_region 7 with fail;obtain ⟨oa, hz⟩ : ∃ W, W = o9.alloc (.cells #[.string (RS px), .string (RS py), .string (RS z)] 57) := ⟨_, rfl⟩;have d : Below o9.heap.size o9 oa := by rw [hz]; exact zal _ _
 obtain ⟨yw, hh⟩ : ∃ g, g = o9.heap.size := ⟨_, rfl⟩;have aV : BoxN oa yw 57 [.string (RS px), .string (RS py), .string (RS z)] := by rw [hz]; exact BoxN.new _ _ _ _ hh.symm
 have z7 := zbt zQ d;have ze := zbt zV d;have aM := gM.bl d;have aD := gD.bl d;have aP := gP.bl d;rw [<- hz, <- hh];clear hz hh d zQ zV gM gD gP x0 x1;obtain ⟨m0, t⟩ := zk2 aM;obtain ⟨d0, d1, d2⟩ := zk3 aD;obtain ⟨v0, v1, v2⟩ := zk3 aV;go_wp2_with fail;refine (hR.out oa z7 (O.below ze)).mono ?_;rintro e ob ⟨_, rfl, ⟨vl, rfl, yk⟩, G⟩;have z8 := zbt z7 G;have zf := zbt ze G;have bM := aM.bl G;have bD := aD.bl G;have bP := aP.bl G;have bV := aV.bl G;clear G z7 ze aM aD aP aV m0 t d0 d1 d2 v0 v1 v2 hR;obtain ⟨m0, t⟩ := zk2 bM;obtain ⟨d0, d1, d2⟩ := zk3 bD;have h8 := hid yk;clear yk;obtain ⟨pl, cl, rfl⟩ := oRs h8.out;obtain ⟨nI, zq⟩ : ∃ k, k = IL.length := ⟨_, rfl⟩;have yU : nI <= 9223372036854775807 := by
  rcases h8.out.2 with ⟨-, h0⟩ | ⟨g, cap, yZ, -, -, -, h5, h6, -⟩
  ·omega
  ·unfold maxLen at h6; omega
 rw [<- zq] at h8 ⊢;have hU := hid zq;clear zq;go_wp2_with fail;refine zR (hO.out ob z8 (O.below zf)) fun oc hbc => ?_;have z9 := zbt z8 hbc;have zg := zbt zf hbc;have zF := hid (WRA h8.out hbc);have cM := bM.bl hbc;have cD := bD.bl hbc;have cP := bP.bl hbc;have cV := bV.bl hbc;clear hbc z8 zf bM bD bP bV m0 t d0 d1 d2 hO h8;obtain ⟨m0, t⟩ := zk2 cM;obtain ⟨q0, q1⟩ := zk2 cP;go_wp2_with fail;refine zR (hL.out oc z9 (O.below zg)) fun od hbd => ?_;have za := zbt z9 hbd;have hq := zbt zg hbd;have zG := hid (WRA zF.out hbd);have dM := cM.bl hbd;have dD := cD.bl hbd;have dV := cV.bl hbd;clear hbd z9 zg cM cD cP cV m0 t q0 q1 hL zF;rcases hM.out with ⟨e1, e2, e3⟩ | ⟨e1, e2, e3, y3, y4, y5⟩
 ·subst e1 e2
  have h0 : nI = 0 := by rw [hU.out, e3]; rfl
  subst h0;clear e3;go_wp2_with fail;go_ret;exact ⟨_, rfl, rfl, hq⟩
 have yr := hid e3;have zD := hid y5;have l : Hid (L.length = J) := by unfold Hid; rw [y3, zA.out]
 have zz := hid y4;subst e1 e2;clear y5 y3 y4 e3 hM;obtain ⟨m0, t⟩ := zk2 dM;obtain ⟨d0, d1, d2⟩ := zk3 dD;obtain ⟨v0, v1, v2⟩ := zk3 dV;go_wp2_with fail;refine (zD.out od za (O.below hq)).mono ?_;rintro e oF ⟨_, rfl, ⟨vh, rfl, yj⟩, hd⟩;have zS := zbt za hd;have zW := zbt hq hd;have zE := hid (WRA zG.out hd);have eD := dD.bl hd;clear hd dM dV dD m0 t d0 d1 d2 v0 v1 v2 zD zG za hq;have yf : 0 < J := by rw [zA.out]; omega
 obtain ⟨bh, oh, ch, rfl, zj, yb⟩ := RdQ.cells yj (by rw [l.out]; exact yf);obtain ⟨bu, ou, rfl, zk, hE⟩ := hX.out;have yq : Hid (∀ i, i < J -> oF.cell? ⟨bh, oh + i, none⟩ = some (.string (RS (L[i]?.getD 0)))) := fun i hi => by
  rw [yb i (by rw [l.out]; exact hi)];unfold hI;simp
 have yv : Hid (∀ i, i < J -> oF.cell? ⟨bu, ou + i, none⟩ = some (.string (U[i]?.getD ⟨#[]⟩))) := fun i hi => (zcq zS zk (hE i hi) :);have he : bu < oF.heap.size := Nat.lt_of_lt_of_le zk zS.size;have x2 : J <= 1000000 := by omega
 rw [l.out];clear yb hE yj hX zk;have yO := eD.lt;have d1 := eD.cell 1 rfl;obtain ⟨i2, yE, yK, yL, yM⟩ := info_parts iIv;go_wp2_with fail;go_loopw [21, 22, 23] (fun t21 t22 t23 wr => ∃ (j k m : Nat) (pw : Option Addr) (cw : Nat), t21 = .slice pw m cw /\ t22 = .string (RS (lgK U L z k).2) /\ t23 = .int .i64 ((j : Int) - 1) /\ j + k = J /\ Hid ((lgK U L z k).1.length = m) /\ m <= k /\ wr.ownsRow oF.heap.size 66 3 (.slice pw m cw) m (cIv (lgK U L z k).1) /\ Below oF.heap.size oF wr) (fun t21 t22 t23 _ => (RowKit.intOf t23 + 1).toNat)
 case atStart => exact ⟨J, 0, 0, none, 0, rfl, rfl, rfl, rfl, rfl, Nat.le_refl _, World.ownsRow_nil _ _ _ _, Below.refl _ _⟩
 case round =>
  obtain ⟨j, k, m, pw, cw, rfl, rfl, rfl, yG, h7, yH, X, M⟩ := hrel;have zh := zbt zW M;rcases j with _ | i
  ·have ek : k = J := by omega
   subst ek;have hQ : Hid ((lgK U L z k).1 = IL) := by unfold Hid; rw [yr.out]; unfold lgK logL; rw [l.out]
   have em : m = nI := by rw [<- h7.out, hQ.out, <- hU.out]
   rw [hQ.out] at X;subst em;have e1 : (((0 : Nat) : Int) - 1) = -1 := rfl;rw [e1];have yn : Hid (∀ i, i < m -> ∃ g h, pl = some ⟨g, 0, none⟩ /\ pw = some ⟨h, 0, none⟩ /\ g < wr.heap.size /\ h < wr.heap.size /\ ∃ c0 c1 c2, wr.cell? ⟨g, i * 3, none⟩ = some (.string c0) /\ wr.cell? ⟨g, i * 3 + 1, none⟩ = some (.string c1) /\ wr.cell? ⟨g, i * 3 + 2, none⟩ = some (.string c2) /\ wr.cell? ⟨h, i * 3, none⟩ = some (.string c0) /\ wr.cell? ⟨h, i * 3 + 1, none⟩ = some (.string c1) /\ wr.cell? ⟨h, i * 3 + 2, none⟩ = some (.string c2)) := fun i hi => by
    have yJ := WRA zE.out M;have yF : i < IL.length := by rw [<- hU.out]; exact hi
    obtain ⟨f1, f2, f3⟩ := cIa IL i yF;obtain ⟨g, c', e1, a1, a2, a3, a4⟩ := row3 yJ (by omega) f1 f2 f3;injection e1 with e1 _ _
    obtain ⟨h, yX, e2, b1, b2, b3, b4⟩ := row3 X (by omega) f1 f2 f3;injection e2 with e2 _ _
    exact ⟨g, h, e1, e2, a1, b1, _, _, _, a2, a3, a4, b2, b3, b4⟩
   clear h7 X hQ yG yH zE;obtain ⟨wo, yN⟩ := zex (wr : World);subst yN;go_wp2_with fail;go_loopw [24] (fun t24 wq => ∃ i : Nat, t24 = .int .i64 i /\ i <= m /\ Below wo.heap.size wo wq) (fun t24 _ => m - (RowKit.intOf t24).toNat)
   case atStart => exact ⟨0, rfl, Nat.zero_le _, Below.refl _ _⟩
   case round =>
    obtain ⟨i, rfl, hi, R⟩ := hrel;by_cases h : i < m
    ·obtain ⟨g, h', rfl, rfl, y1, y2, c0, c1, c2, a1, a2, a3, b1, b2, b3⟩ := yn.out i h
     have yT : (i : Int) < (m : Int) := by omega
     have z1 := zcq R y1 a1;have z2 := zcq R y1 a2;have z3 := zcq R y1 a3;have z4 := zcq R y2 b1;have z5 := zcq R y2 b2;have z6 := zcq R y2 b3;clear a1 a2 a3 b1 b2 b3 y1 y2;go_upto_region 28 with fail;go_cut [158] (fun s wx => s = .bool false /\ Below wo.heap.size wo wx)
     case first =>
      go_region;all_goals (go_wp2_with fail; go_meet; exact ⟨rfl, R.trans ((bdN wr 1).mono R.size)⟩)
     case rest =>
     obtain ⟨rfl, yz⟩ := hcut;go_wp2_with fail;go_roundw
     case rel => exact ⟨i + 1, by simp, by omega, yz⟩
     case measure =>
      show m - ((i : Int) + 1).toNat < m - (i : Int).toNat;omega
    ·obtain rfl : i = m := by omega
     go_wp2_with fail;go_ret;exact ⟨_, rfl, rfl, (zbt zh R)⟩
  ·have ei : (((i + 1 : Nat) : Int) - 1) = (i : Int) := by omega
   rw [ei];have zo : i < J := by omega
   have V : Hid (lgK U L z (k + 1) = lSp U L z (lgK U L z k) i) := lKn U L z k i (by have := l.out; omega);have x3 : (i : Int) < (J : Int) := by omega
   have hC : Sz 9 (lgK U L z k).2 := lTS (by omega) zz.out hn.out _;have hA : Sz 9 (L[i]?.getD 0) := by rw [List.getElem?_eq_getElem (by rw [l.out]; exact zo)]; exact zz.out _ (List.getElem_mem _)
   have h1 := zcq M zj (yq.out i zo);have u1 := zcq M he (yv.out i zo);have q : Hid (∀ w', Good w' -> _) := fun w' hg' => rCa (L[i]?.getD 0) (lgK U L z k).2 9 (by omega) (by omega) hA hC w' hg'
   unfold lSp at V;have zB : Hid (∀ w', Good w' -> _) := fun w' hg' => rSa z (lgK U L z k).2 9 (by omega) (by omega) hn.out hC w' hg'
   have zC : Hid (∀ w', Good w' -> _) := fun w' hg' => rSa z (L[i]?.getD 0) 9 (by omega) (by omega) hn.out hA w' hg'
   by_cases hlt : L[i]?.getD 0 < (lgK U L z k).2
   ·rw [if_pos hlt] at V
    rw [cQl hlt] at q;have zy : Hid ((lgK U L z (k + 1)).1.length = m + 1) := by unfold Hid; rw [V.out, List.length_append, h7.out]; rfl
    have hV : Hid ((lgK U L z (k + 1)).2 = L[i]?.getD 0) := by unfold Hid; rw [V.out]
    have ym : Hid (cIv (lgK U L z (k + 1)).1 = cIv (lgK U L z k).1 ++ [.string (U[i]?.getD ⟨#[]⟩), .string (RS (z - (lgK U L z k).2)), .string (RS (z - L[i]?.getD 0))]) := by unfold Hid; rw [V.out]; exact cIs _ _
    clear hlt V hC hA;generalize L[i]?.getD 0 = li at *;generalize U[i]?.getD ⟨#[]⟩ = un at *;generalize (lgK U L z k).2 = tp at *;generalize (lgK U L z k).1 = lk at *;generalize RS (z - tp) = s1t at *;generalize RS (z - li) = s2t at *;go_wp2_with fail;refine zR (q.out wr (O.below zh)) fun w6 hb6 => ?_;have A := zbt M hb6;have Q := WRA X hb6;have zx : Hid (∀ w', Below oF.heap.size oF w' -> Good w') := fun w' hb => O.below ((zbt zW hb));have I : Hid (∀ w', Below oF.heap.size oF w' -> (w'.cell? ⟨g7, 1, none⟩ = some (.slice (some ⟨bu, ou, none⟩) J cu) /\ w'.cell? ⟨bu, ou + i, none⟩ = some (.string un)) /\ w'.cell? ⟨bh, oh + i, none⟩ = some (.string (RS li))) := fun w' hb => by
     have k1 := M.cell (p := ⟨bh, oh + i, none⟩) zj;have k2 := M.cell (p := ⟨bu, ou + i, none⟩) he;exact ⟨⟨(eD.below hb yO).cell 1 rfl, (zcq hb he (k2.symm.trans u1) :)⟩, (zcq hb zj (k1.symm.trans h1) :)⟩
    have ho := A.trans ((bdN w6 1).mono A.size);have hG := WRA Q (bdN w6 1);clear Q X h1 u1 q;go_upto_region 21 with fail;refine AnyL.region (S := Till 17 (fun w' => (w'.cell? ⟨g7, 1, none⟩ = some (.slice (some ⟨bu, ou, none⟩) J cu) /\ w'.cell? ⟨bu, ou + i, none⟩ = some (.string un)) /\ w'.cell? ⟨bh, oh + i, none⟩ = some (.string (RS li))) (fun _ => True)) (by kernel_rfl) ?_;have Z : Till 17 (fun w' => (w'.cell? ⟨g7, 1, none⟩ = some (.slice (some ⟨bu, ou, none⟩) J cu) /\ w'.cell? ⟨bu, ou + i, none⟩ = some (.string un)) /\ w'.cell? ⟨bh, oh + i, none⟩ = some (.string (RS li))) (fun _ => True) (Array.replicate 19 false) _ := ⟨I.out _ ho, fun _ => trivial⟩;refine zlk 0 Z ?_;try simp only [Act.put]
    refine zlk 1 Z ?_;try simp only [Act.put]
    refine zlk 2 Z ?_;try simp only [Act.put]
    refine zlk 3 Z ?_;try simp only [Act.put]
    refine zlk 4 Z ?_;try simp only [Act.put]
    refine zlk 5 Z ?_;try simp only [Act.put]
    refine zlk 6 Z ?_;try simp only [Act.put]
    refine zlk 7 Z ?_;try simp only [Act.put]
    refine zlk 9 Z ?_;try simp only [Act.put]
    refine zlk 10 Z ?_;try simp only [Act.put]
    refine zlk 11 Z ?_;try simp only [Act.put]
    refine zlk 12 Z ?_;try simp only [Act.put]
    refine zlk 13 Z ?_;try simp only [Act.put]
    refine AnyL.one (i := 8) (o := _) (by kernel_rfl) rfl (fun K hK => ?_);go_simp
    (refine (zB.out _ (zx.out _ ho)).mono ?_; rintro e y1 ⟨_, rfl, rfl, zt⟩; have hp := zbt ho zt; have hJ := WRA hG zt)
    refine hK.out _ _ ⟨I.out _ hp, fun hk => trivial⟩ (fun Z => ?_);clear hK K;try simp only [Act.put]
    refine AnyL.one (i := 14) (o := _) (by kernel_rfl) rfl (fun K hK => ?_);go_simp
    (refine (zC.out _ (zx.out _ hp)).mono ?_; rintro e y2 ⟨_, rfl, rfl, zu⟩; have N := zbt hp zu; have hm := WRA hJ zu)
    refine hK.out _ _ ⟨I.out _ N, fun hk => trivial⟩ (fun Z => ?_);clear hK K;try simp only [Act.put]
    refine zlk 15 Z ?_;try simp only [Act.put]
    refine AnyL.one (i := 16) (o := _) (by kernel_rfl) rfl (fun K hK => ?_);go_simp;refine hK.out _ _ ⟨I.out _ (N.alloc N.size _), fun hk => trivial⟩ (fun Z => ?_);clear hK K;try simp only [Act.put]
    refine AnyL.one (i := 17) (o := _) (by kernel_rfl) rfl (fun K hK => ?_)
    (rw [if_pos (by simp [Region.wanted])]; refine wp_append_own _ (.tmp 113) (.tmp 129) 58 (by rfl) oF.heap.size 66 i2 (.agg #[.string ⟨#[]⟩, .string ⟨#[]⟩, .string ⟨#[]⟩]) 3 48 Tryz.underlying58 yE yK yL yM rfl (by decide) _ _ _ (by simp [Act.eval]) (hm.alloc _) ⟨y2.heap.size, 0, none⟩ 1 1 [.string un, .string s1t, .string s2t] (by simp [Act.eval]) rfl (cte _ _ _ _ _) (tsr _ _ _) (by unfold maxLen; omega) (by omega) (by have := N.size; simp; omega) ?_; intro v8 w8 E hF _; have zb := (N.alloc N.size (.cells #[.string un, .string s1t, .string s2t] 66)).grown hF (by have := N.size; simp; omega) (fun j hj => by have := (hm.lt j hj).1; omega))
    refine hK.out _ _ ⟨I.out _ zb, fun hk => trivial⟩ (fun Z => ?_);clear hK K;try simp only [Act.put]
    refine AnyL.take (i := 18) (oi := _) (v := ?_) rfl (by kernel_rfl) (by kernel_rfl) (by kernel_rfl) (by decide) (fun _ _ _ h => h) (Or.inl ⟨by rfl, ?_⟩) ⟨Z.1, fun hk => (by simp at hk)⟩ ?_;rotate_left
    ·intro w yy; (try dsimp only at yy); first | (go_simp; done) | (go_simp; with_reducible rfl)
    try simp only [Act.put]
    refine AnyL.done (by kernel_rfl) ?_ _;rw [<- ym.out] at E;obtain ⟨p8, c8, rfl⟩ := oRs E;have z1 := (I.out _ zb).2;clear hG hJ hm hF zt zu ho hp N I;go_wp2_with fail;go_roundw
    case rel => exact ⟨i, k + 1, m + 1, p8, c8, rfl, by rw [hV.out], rfl, by omega, zy, by omega, E, zb⟩
    case measure =>
     show ((i : Int) - 1 + 1).toNat < ((i : Int) + 1).toNat;omega
   ·rw [if_neg hlt] at V
    obtain ⟨cz, y9, yP⟩ : ∃ cz : Int, cmpQ (L[i]?.getD 0) (lgK U L z k).2 = cz /\ 0 <= cz := ⟨_, rfl, by rcases cQc (L[i]?.getD 0) (lgK U L z k).2 with ⟨e, _⟩ | ⟨_, e⟩ | ⟨_, e⟩ <;> first | exact absurd e hlt | (rw [e]; decide)⟩;rw [y9] at q;have yQ : decide (cz < 0) = false := decide_eq_false (by omega);clear y9 hlt hC hA;have hN : Hid ((lgK U L z (k + 1)).1 = (lgK U L z k).1 /\ (lgK U L z (k + 1)).2 = (lgK U L z k).2) := by unfold Hid; rw [V.out]; exact ⟨rfl, rfl⟩
    rw [<- hN.out.1] at X h7;have hV : Hid ((lgK U L z (k + 1)).2 = (lgK U L z k).2) := hN.out.2;clear V hN zB zC;generalize L[i]?.getD 0 = li at *;generalize (lgK U L z k).2 = tp at *;go_wp2_with fail;refine zR (q.out wr (O.below zh)) fun w6 hb6 => ?_;have A := zbt M hb6;have Q := WRA X hb6;clear q X h1 u1;go_wp2_with fail;go_roundw
    case rel => exact ⟨i, k + 1, m, pw, cw, rfl, by rw [hV.out], rfl, by omega, h7, by omega, Q, A⟩
    case measure =>
     show ((i : Int) - 1 + 1).toNat < ((i : Int) + 1).toNat;omega
end Go.Proofs.YtlodicfimpgibaaGreatDoor
