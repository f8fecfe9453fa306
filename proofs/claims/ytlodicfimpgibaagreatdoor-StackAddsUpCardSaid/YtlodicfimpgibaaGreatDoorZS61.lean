import Derived.Test.YtlodicfimpgibaaGreatDoorZS62
import Derived.Test.YtlodicfimpgibaaGreatDoorZS48
/- klippelaw28.touches. klippelaw28.StackAddsUp. -/
set_option maxHeartbeats 8000000
set_option maxRecDepth 100000
namespace Go.Proofs.YtlodicfimpgibaaGreatDoor
open Go.RowKit Go.Lib
theorem t2a (w : World) (hg : Good w) (C B pb pu p : Option Addr) (E D nb nu X M K g f cs : Nat) (x y : ByteArray) (z : Rat) (L : List Rat) (h5 : X <= 60) (j : Nat) (hj : j < X) (G : L[j + 1]?.getD 0 = z)
 (l : Hid (∀ i, i < X -> ∃ (b o : Nat) (q : Option Addr) (s v : Nat), p = some ⟨b, o, none⟩ /\ b < w.heap.size /\ w.cell? ⟨b, o + i, none⟩ = some (.slice q s v) /\
   ∀ w', Below w.heap.size w w' -> Good w' -> Calls Tryz.prog 14 #[.agg #[.slice C E M, .slice B D K], .slice q s v, .agg #[.string x, .string y]] w' (Ret (fun r _ => r = .tuple #[.string (RS ((L[i + 1]?).getD 0)), .int .i64 0]) w'))) :
 Calls Tryz.prog 17 #[.agg #[.slice C E M, .slice B D K], .agg #[.slice pb nb g, .slice pu nu f, .slice p X cs], .agg #[.string x, .string y, .string (RS z)]] w (Ret (fun r _ => r = .bool true) w) := by
 have m := hid G;clear G;go_enter Tryz.func17, Tryz.ntmps17;go_wp2_with fail;obtain ⟨W, O⟩ := zex (((w.alloc (.cells #[.slice C E M, .slice B D K] 38)).alloc (.cells #[.slice pb nb g, .slice pu nu f, .slice p X cs] 44)).alloc (.cells #[.string x, .string y, .string (RS z)] 57));have hB : Below w.heap.size w W := by rw [O]; exact (((Below.refl _ _).alloc (Nat.le_refl _) _).alloc (by simp) _).alloc (by simp; omega) _
 have cm : BoxN W w.heap.size 38 [.slice C E M, .slice B D K] := by rw [O]; exact ((BoxN.new _ _ _ _ rfl).alloc _).alloc _
 have cd : BoxN W (w.heap.size + 1) 44 [.slice pb nb g, .slice pu nu f, .slice p X cs] := by rw [O]; exact (BoxN.new _ _ _ _ (by simp)).alloc _
 have cv : BoxN W (w.heap.size + 1 + 1) 57 [.string x, .string y, .string (RS z)] := by rw [O]; exact BoxN.new _ _ _ _ (by simp)
 rw [<- O];clear O;have lm := cm.lt;have ld := cd.lt;have lv := cv.lt;go_loopw [7] (fun t7 wr => ∃ (i : Nat), t7 = .int .i64 i /\ i <= j /\ Below W.heap.size W wr) (fun t7 _ => X - (RowKit.intOf t7).toNat)
 case atStart => exact ⟨0, rfl, Nat.zero_le _, Below.refl _ _⟩
 case round =>
  obtain ⟨i, rfl, h3, Y⟩ := hrel;have V := zbt hB Y;have em := cm.below Y lm;have c := cd.below Y ld;have t := cv.below Y lv;obtain ⟨m0, m1⟩ := zk2 em;have d := c.cell 2 rfl;obtain ⟨q0, q1⟩ := zk2 t;have h : i < X := by omega
  have h2 : (i : Int) < (X : Int) := by omega
  obtain ⟨k, os, q, s, v, rfl, S, H, I⟩ := l.out i h;have N := hid I;have h1 : k < wr.heap.size := Nat.lt_of_lt_of_le S V.size;have xs := zcq V S H;have n : Hid (i = j -> L[i + 1]?.getD 0 = z) := fun e => by rw [e]; exact m.out
  generalize L[i + 1]?.getD 0 = qi at *;have km := em.lt;have kd := c.lt;have kv := t.lt;clear H I em c S;go_upto_region 4 with fail;have Q : Good wr.drew := (hg.below V).drewN 1;have J : Below w.heap.size w wr.drew := V.trans ((bdN wr 1).mono V.size);go_cut [8, 9] (fun s8 s9 wx => s8 = .string (RS qi) /\ s9 = .int .i64 0 /\ Below wr.heap.size wr wx)
  case first =>
   go_region_held3 (fun w' => w'.cell? ⟨w.heap.size, 0, none⟩ = some (.slice C E M) /\ w'.cell? ⟨w.heap.size, 1, none⟩ = some (.slice B D K) /\ w'.cell? ⟨w.heap.size + 1, 2, none⟩ = some (.slice (some ⟨k, os, none⟩) X cs) /\ w'.cell? ⟨w.heap.size + 1 + 1, 0, none⟩ = some (.string x) /\ w'.cell? ⟨w.heap.size + 1 + 1, 1, none⟩ = some (.string y) /\ w'.cell? ⟨k, os + i, none⟩ = some (.slice q s v))
    (first | exact ⟨m0, m1, d, q0, q1, xs⟩ | exact ⟨p_1_0, p_1_1, p_1_2, p_1_3, p_1_4, p_1_5⟩)
    (first
    | (go_at_call 14; refine (N.out _ J Q).mono ?_; rintro e A ⟨_, rfl, rfl, Z⟩
       have p_1_0 := zct Z m0;have p_1_1 := zct Z m1;have p_1_2 := zct Z d;have p_1_3 := zct Z q0;have p_1_4 := zct Z q1;have p_1_5 := zct Z xs;have h7 : wr.heap.size <= A.heap.size := Z.size;have h6 := Q.below Z))
   have pB : Below wr.heap.size wr A := zbt (bdN wr 1) Z;go_wp2_with fail;go_meet;exact ⟨rfl, rfl, pB⟩
  case rest =>
  obtain ⟨rfl, rfl, R⟩ := hcut;have v2 := (t.below R kv).cell 2 rfl;have U := zbt Y R;have a := zbt hB U;clear m0 m1 d q0 q1 xs km kd kv Q J N t R Y;by_cases he : qi = z
  ·have h0 : ((RS qi).toList == (RS z).toList) = true := by rw [Rbq]; exact decide_eq_true he
   go_wp2_with fail;go_ret;exact ⟨_, rfl, rfl, a⟩
  ·have h0 : ((RS qi).toList == (RS z).toList) = false := by rw [Rbq]; exact decide_eq_false he
   have h4 : i ≠ j := fun e => he (n.out e);go_wp2_with fail;go_roundw
   case rel => exact ⟨i + 1, by simp, by omega, U⟩
   case measure =>
    show X - ((i : Int) + 1).toNat < X - (i : Int).toNat;omega
open Go.Shelf
theorem sAU (w : World) (kz M Q : Int) (Z : Bool) (a0 a1 a2 a3 a4 a5 : Int) (ah : Bool) (vh : Value) (H : List StepQ) (x y ht : Int)
 (zi : 0 <= kz) (y3 : kz <= 255) (zm : -128 <= M /\ M <= 127) (zn : -128 <= Q /\ Q <= 127) (ha : ∀ x ∈ [a0, a1, a2, a3, a4, a5], -128 <= x /\ x <= 127) (hH : RdSt w vh H) (hx : -128 <= x /\ x <= 127) (hy : -128 <= y /\ y <= 127) (yG : -32768 <= ht /\ ht <= 32767) (R : Good w) :
 Calls Tryz.prog 3 #[.agg #[.int .u8 kz, .int .i8 M, .int .i8 Q, .bool Z, .int .i8 a0, .int .i8 a1, .int .i8 a2, .int .i8 a3, .int .i8 a4, .int .i8 a5, .bool ah, vh], .agg #[.int .i8 x, .int .i8 y], .int .i16 ht] w (Ret (fun r _ => r = .bool true) w) := by
 obtain ⟨kk, y4⟩ : ∃ k : Nat, kz.tmod 8 = (k : Int) := ⟨(kz.tmod 8).toNat, by have := Int.tmod_nonneg 8 zi; omega⟩;have hG : Hid (H.length <= 3 -> ∀ w', Below w.heap.size w w' -> Good w' -> _) := fun h3 w' hbw R => m2n w' kz M Q Z kk y4 zi y3 zm zn a0 a1 a2 a3 a4 a5 ah ha vh H (hH.below hbw) h3 R;have yo : Hid (∀ w', Good w' -> _) := fun w' R => p4a w' kz M Q Z x y zm zn hx hy R;have yp : Hid (∀ w', Good w' -> _) := fun w' R => rOa ht 4 ht 4 4 rfl (by omega) (by omega) (by omega) (.inl ⟨rfl, rfl⟩) w' R
 have y9 : SzP 20 (pBB 4 M Z x, pBB 4 Q Z y) := ⟨(pBS 4 (by omega) (by omega) M Z x hx).mono (by omega), (pBS 4 (by omega) (by omega) Q Z y hy).mono (by omega)⟩;have yf : Sz 9 (mkRat ht 4) := (Sz.mkRat (k := 5) (by omega) (by omega) (by omega)).mono (by omega);have zW : FrP 8 312 (pBB 4 M Z x, pBB 4 Q Z y) := ⟨fPp M Z x hx, fPp Q Z y hy⟩;have yk := hid zW;have hJ := hid y9;have hk := hid yf;generalize pBB 4 M Z x = px at *;generalize pBB 4 Q Z y = py at *;generalize mkRat ht 4 = z at *;clear y9 yf zW;obtain ⟨p1, c1, rfl, yE, yF, -⟩ := hH.1;unfold maxLen at yF;clear hH ha zi y3 zm zn hx hy y4;obtain ⟨N, y6⟩ : ∃ n, n = H.length := ⟨_, rfl⟩;rw [<- y6] at yE hG ⊢;clear y6;have hM : Hid (∀ w', _) := fun w' => fd0 w' kz M Q Z a0 a1 a2 a3 a4 a5 ah p1 N c1 (by omega)
 obtain ⟨f1, h4⟩ : ∃ f, f = decide (N <= 3) := ⟨_, rfl⟩;rw [<- h4] at hM;have yi : Hid (f1 = true -> N <= 3) := fun h => of_decide_eq_true (h4.symm.trans h);clear h4;go_enter Tryz.func3, Tryz.ntmps3;go_wp2_with fail;obtain ⟨W, hW⟩ := zex ((w.alloc (.cells #[.int .u8 kz, .int .i8 M, .int .i8 Q, .bool Z, .int .i8 a0, .int .i8 a1, .int .i8 a2, .int .i8 a3, .int .i8 a4, .int .i8 a5, .bool ah, .slice p1 N c1] 31)).alloc (.cells #[.int .i8 x, .int .i8 y] 23));have hB : Below w.heap.size w W := by rw [hW]; exact zal2 _ _ _
 have bx : BoxN W w.heap.size 31 [.int .u8 kz, .int .i8 M, .int .i8 Q, .bool Z, .int .i8 a0, .int .i8 a1, .int .i8 a2, .int .i8 a3, .int .i8 a4, .int .i8 a5, .bool ah, .slice p1 N c1] := by
  rw [hW];exact (BoxN.new w #[.int .u8 kz, .int .i8 M, .int .i8 Q, .bool Z, .int .i8 a0, .int .i8 a1, .int .i8 a2, .int .i8 a3, .int .i8 a4, .int .i8 a5, .bool ah, .slice p1 N c1] 31 _ rfl).alloc _
 have zv : BoxN W (w.heap.size + 1) 23 [.int .i8 x, .int .i8 y] := by rw [hW]; exact BoxN.new _ _ _ _ (by simp)
 rw [<- hW];clear hW;refine zR (k2a W (R.below hB)) fun o1 hb1 => ?_;have zE := zbt hB hb1;have hO := bx.bl hb1;have zu := zv.bl hb1;clear hb1 hB bx zv;obtain ⟨k0, k1, k2, k3, k4, k5, k6, k7, k8, k9, zo, zp⟩ := zk12 hO;go_wp2_with fail;refine zR (hM.out o1) fun o3 hb2 => ?_;have G := zbt zE hb2;have hQ := hO.bl hb2;have zw := zu.bl hb2;clear hb2 zE hO zu k0 k1 k2 k3 k4 k5 k6 k7 k8 k9 zo zp hM;cases h4 : f1
 ·go_wp2_with fail
  refine zR (k2a o3 (R.below G)) fun o4 E => ?_;go_wp2_with fail;go_ret;exact ⟨_, rfl, rfl, (zbt G E)⟩
 obtain ⟨k0, k1, k2, k3, k4, k5, k6, k7, k8, k9, zo, zp⟩ := zk12 hQ;go_wp2_with fail;refine (hG.out (yi.out h4) o3 G (R.below G)).mono ?_;rintro e o4 ⟨_, rfl, ⟨pp, cp, pt, ct, pb, cb, pu, cu, ps, cs, P, T, B, H0, U, n, rfl, hP, hT, yH, zH, za, hD, zI⟩, E⟩;have yA := zbt G E;have zs := hQ.bl E;have zx := zw.bl E;clear E G hQ zw k0 k1 k2 k3 k4 k5 k6 k7 k8 k9 zo zp hG;have h2 : MeshOK P T 2 := by rw [hP, hT]; exact sok kk M Q Z
 have zN : ∀ u ∈ U, u ≠ ⟨#[]⟩ := by rw [za]; exact uTf _
 have zO : U.length = n + 1 := by rw [za, uTl]
 have y8 : ∀ p ∈ P, FrP 2 26 p := by rw [hP]; exact fg0 _ _ _ _
 have z8 : ∀ w', Below o4.heap.size o4 w' -> Good w' -> _ := fun w' hb hg' => cok w' _ _ P T 3 (hD.below hb).p (hD.below hb).t hD.m (px, py) ⟨hJ.out.1.mono (by omega), hJ.out.2.mono (by omega)⟩ hg'
 obtain ⟨ll, zj⟩ := zex (locN P T (px, py) T.length);obtain ⟨hd, zh⟩ : ∃ b, b = decide ((0 : Int) < (ll.length : Int)) := ⟨_, rfl⟩;rw [<- zj, <- zh] at z8;have zV : hd = true -> ∃ (t : Nat) (l : List Int), locN P T (px, py) T.length = (t : Int) :: l := fun hi => by
  rw [zh] at hi;have h0 := of_decide_eq_true hi;cases hl : ll with
  | nil => rw [hl] at h0; exact absurd h0 (by decide)
  | cons x l =>
    rw [zj] at hl;have hx : x ∈ locN P T (px, py) T.length := by rw [hl]; simp
    unfold locN at hx;obtain ⟨t, _, rfl⟩ := List.mem_map.1 hx;exact ⟨t, l, hl⟩
 have zZ : hd = true -> _ := fun hi => pin h2 yH zH zO zN hD y8 zI (px, py) z hJ.out yk.out hk.out (zV hi).choose_spec.choose_spec;have hF := hid zZ;have hE := hid z8;clear hP hT za z8 zZ zV zh zj hD h2 zN zH y8 zI;obtain ⟨nP, hq⟩ : ∃ k, k = P.length := ⟨_, rfl⟩;obtain ⟨nT, hr⟩ : ∃ k, k = T.length := ⟨_, rfl⟩;obtain ⟨nU, zl⟩ : ∃ k, k = U.length := ⟨_, rfl⟩;rw [<- hq, <- hr, <- zl] at hF;rw [<- hr, <- hq] at hE;rw [<- zl, <- hr, <- hq];clear zl hr hq zO;go_upto_region 4 with fail;obtain ⟨o5, h9⟩ : ∃ W, W = (o4.alloc (.cells #[.slice pp nP cp, .slice pt nT ct] 38)).alloc (.cells #[.slice pb nP cb, .slice pu nU cu, .slice ps n cs] 44) := ⟨_, rfl⟩;have d : Below o4.heap.size o4 o5 := by rw [h9]; exact zal2 _ _ _
 obtain ⟨g6, zd⟩ : ∃ g, g = o4.heap.size := ⟨_, rfl⟩;obtain ⟨g7, ze⟩ : ∃ g, g = o4.heap.size + 1 := ⟨_, rfl⟩;have cM : BoxN o5 g6 38 [.slice pp nP cp, .slice pt nT ct] := by rw [h9]; exact (BoxN.new _ _ _ _ zd.symm).alloc _
 have cD : BoxN o5 g7 44 [.slice pb nP cb, .slice pu nU cu, .slice ps n cs] := by rw [h9]; exact BoxN.new _ _ _ _ (by simp [ze])
 have hX := zbt yA d;have zt := zs.bl d;have zy := zx.bl d;rw [<- h9, <- ze, <- zd];clear h9 zd ze zs zx;obtain ⟨k0, k1, k2, k3⟩ := zk4 zt;obtain ⟨l0, l1⟩ := zk2 zy;go_wp2_with fail;refine zR (yo.out o5 (R.below hX)) fun o6 hb6 => ?_;have zz := zbt d hb6;have zF := zbt hX hb6;have dM := cM.bl hb6;have dD := cD.bl hb6;clear hb6 d hX cM cD k0 k1 k2 k3 l0 l1 zt zy;go_upto_region 5 with fail;obtain ⟨o7, hw⟩ : ∃ W, W = o6.alloc (.cells #[.string (RS px), .string (RS py)] 49) := ⟨_, rfl⟩;have a : Below o6.heap.size o6 o7 := by rw [hw]; exact zal _ _
 obtain ⟨g9, zf⟩ : ∃ g, g = o6.heap.size := ⟨_, rfl⟩;have eP : BoxN o7 g9 49 [.string (RS px), .string (RS py)] := by rw [hw]; exact BoxN.new _ _ _ _ zf.symm
 have hR := zbt zz a;have hY := zbt zF a;have eM := dM.bl a;have eD := dD.bl a;rw [<- hw, <- zf];clear hw zf a zz zF dM dD;obtain ⟨m0, N⟩ := zk2 eM;obtain ⟨q0, q1⟩ := zk2 eP;obtain ⟨yL, yM⟩ := yG;go_wp2_with fail;refine zR (hE.out o7 hR (R.below hY)) fun o8 hb8 => ?_;have zA := zbt hR hb8;have hm := zbt hY hb8;have fM := eM.bl hb8;have fD := eD.bl hb8;have fP := eP.bl hb8;clear hb8 hR hY eM eD eP m0 N q0 q1 hE;cases hIs : hd
 ·go_wp2_with fail
  go_ret;exact ⟨_, rfl, rfl, hm⟩
 obtain ⟨L, yD, z9, hc, zD, zL, -, zP, zQ⟩ := hF.out hIs;have ho : 0 < L.length := by omega
 have ye : Sz 9 (L[0]?.getD 0) := by rw [List.getElem?_eq_getElem ho]; exact z9 _ (List.getElem_mem ho)
 have zM := lk0 (U := U) (by omega) z9 hk.out (bwd L.length L.length);have hA := lLa (U := U) (z := z) ho hc;have zK : ∀ j, j + 1 < L.length -> j < n := fun j hj => by omega
 have yl := hid zK;have hf := hid zD;have zq := hid zL;have hL := hid zP;have yt := hid zQ;have hK : Hid (∀ c ∈ logL U L z, Sz 19 c.fro /\ Sz 19 c.til) := zM;have A := hid hA;have hN := hid ye;clear zD zL zP zQ hc z9 yD ho zM hA zK hF ye;go_wp2_with fail;refine zR (yp.out o8 (R.below hm)) fun o9 hb9 => ?_;have zB := zbt zA hb9;have zG := zbt hm hb9;have gM := fM.bl hb9;have gD := fD.bl hb9;have gP := fP.bl hb9;clear hb9 zA hm fM fD fP;obtain ⟨x0, x1⟩ := zk2 gP;go_upto_region 10 with fail;obtain ⟨oa, hz⟩ : ∃ W, W = o9.alloc (.cells #[.string (RS px), .string (RS py), .string (RS z)] 57) := ⟨_, rfl⟩;have I : Below o9.heap.size o9 oa := by rw [hz]; exact zal _ _
 obtain ⟨yx, h7⟩ : ∃ g, g = o9.heap.size := ⟨_, rfl⟩;have aV : BoxN oa yx 57 [.string (RS px), .string (RS py), .string (RS z)] := by rw [hz]; exact BoxN.new _ _ _ _ h7.symm
 have hS := zbt zB I;have hZ := zbt zG I;have aM := gM.bl I;have aD := gD.bl I;have aP := gP.bl I;rw [<- hz, <- h7];clear hz h7 I zB zG gM gD gP x0 x1;obtain ⟨m0, N⟩ := zk2 aM;obtain ⟨d0, d1, d2⟩ := zk3 aD;obtain ⟨v0, v1, v2⟩ := zk3 aV;go_wp2_with fail;refine (zq.out oa hS (R.below hZ)).mono ?_;rintro e ob ⟨_, rfl, ⟨vl, rfl, yd⟩, O⟩;have hU := zbt hS O;have z4 := zbt hZ O;have bM := aM.bl O;have bD := aD.bl O;have bP := aP.bl O;have bV := aV.bl O;clear O hS hZ aM aD aP aV m0 N d0 d1 d2 v0 v1 v2 zq;obtain ⟨m0, N⟩ := zk2 bM;obtain ⟨d0, d1, d2⟩ := zk3 bD;obtain ⟨v0, v1, v2⟩ := zk3 bV;have J := hid yd;clear yd;obtain ⟨X, zJ⟩ : ∃ l, l = logL U L z := ⟨_, rfl⟩;rw [<- zJ] at J A hK;clear zJ;obtain ⟨bl, hp⟩ : ∃ b, b = decide (cHH L z = 0) := ⟨_, rfl⟩;rw [<- hp] at hf;have hC : Hid ((cHH L z = 0 -> bl = true) /\ (cHH L z ≠ 0 -> bl = false)) := ⟨fun h => by rw [hp]; exact decide_eq_true h, fun h => by rw [hp]; exact decide_eq_false h⟩;clear hp;obtain ⟨q0, ya⟩ : ∃ q, q = L[0]?.getD 0 := ⟨_, rfl⟩;rw [<- ya] at hL A hN;clear ya;obtain ⟨ua, yb⟩ : ∃ u, u = uAt U L z := ⟨_, rfl⟩;rw [<- yb] at hf A;clear yb;obtain ⟨pl, cl, rfl⟩ := oRs J.out;obtain ⟨D, zk⟩ : ∃ k, k = X.length := ⟨_, rfl⟩;have yP : D <= 9223372036854775807 := by
  rcases J.out.2 with ⟨-, h0⟩ | ⟨g, cap, yw, -, -, -, h5, h6, -⟩
  ·omega
  ·unfold maxLen at h6; omega
 rw [<- zk] at J ⊢;have m := hid zk;clear zk;go_wp2_with fail;refine zR (hf.out ob hU (R.below z4)) fun oc hbc => ?_;have hV := zbt hU hbc;have z5 := zbt z4 hbc;have zr := hid (WRA J.out hbc);have cM := bM.bl hbc;have cD := bD.bl hbc;have cP := bP.bl hbc;have cV := bV.bl hbc;clear hbc hU z4 bM bD bP bV m0 N d0 d1 d2 v0 v1 v2 hf J;obtain ⟨m0, N⟩ := zk2 cM;have d0 := cD.cell 0 rfl;obtain ⟨q0, q1⟩ := zk2 cP;go_wp2_with fail;refine zR (hL.out oc hV (R.below z5)) fun od hbd => ?_;have yy := zbt hV hbd;have hn := zbt z5 hbd;have hh := hid (WRA zr.out hbd);have dM := cM.bl hbd;have dD := cD.bl hbd;have dV := cV.bl hbd;clear hbd hV z5 cM cD cP cV m0 N d0 q0 q1 hL zr;rcases A.out with ⟨V, y7⟩ | ⟨c0, r0, V, zb, zT, yc⟩
 ·have h0 : D = 0 := by rw [m.out, V]; rfl
  have yn := hid y7;clear V y7;subst h0;cases hb : bl
  ·have yu : Hid (cmpQ z q0 = 0) := by
    rcases yn.out with h | h
    ·rw [hC.out.1 h] at hb; cases hb
    ·exact (cQz _ _).2 h
   have K : Hid (∀ w', Good w' -> _) := fun w' hg' => rCa z q0 9 (by omega) (by omega) hk.out hN.out w' hg'
   rw [yu.out] at K;go_wp2_with fail;refine zR (K.out od (R.below hn)) fun oe hbe => ?_;have yB := zbt hn hbe;go_wp2_with fail;go_ret;exact ⟨_, rfl, rfl, yB⟩
  ·go_wp2_with fail
   go_ret;exact ⟨_, rfl, rfl, hn⟩
 have yO : 0 < D := by rw [m.out, V]; simp
 obtain ⟨C, rfl⟩ : ∃ g, pl = some ⟨g, 0, none⟩ := by
  rcases hh.out.2 with ⟨-, h0⟩ | ⟨g, cap, yw, e1, -⟩
  ·omega
  ·injection e1 with e11 _ _; exact ⟨g, e11⟩
 have S : ∀ (i : Nat) (v : Value), (cIv X)[i]? = some v -> od.cell? ⟨C, i, none⟩ = some v := fun i v hv => by
  have e : (⟨C, 0, none⟩ : Addr).add i = ⟨C, i, none⟩ := by cases i <;> simp [Addr.add]
  rw [<- e];exact hh.out.cells (g := C) rfl i v hv
 have h8 : C < od.heap.size := (hh.out.lt C rfl).2;have yh : Hid (∀ i, i < D -> od.cell? ⟨C, i * 3 + 1, none⟩ = some (.string (RS (atI X i))) /\ od.cell? ⟨C, i * 3 + 2, none⟩ = some (.string (RS (atI X (i + 1)))) /\ atI X i < atI X (i + 1) /\ Sz 19 (atI X i) /\ Sz 19 (atI X (i + 1))) := fun i hi => by
  have zg : i < X.length := by rw [<- m.out]; exact hi
  obtain ⟨e1, e2, e3⟩ := zb.at zg;obtain ⟨-, f2, f3⟩ := cIa X i zg;have hs := hK.out _ (List.getElem_mem zg);rw [e1] at f2 hs e2;rw [e3] at f3 hs e2;exact ⟨S _ _ f2, S _ _ f3, e2, hs.1, hs.2⟩
 have ym : Hid (atI X D = z - q0) := by
  have h := zb.last (by rw [V]; simp);rwa [<- m.out] at h
 have yv : od.cell? ⟨C, 0, none⟩ = some (.string c0.unit) := by
  have h := (cIa X 0 (by rw [V]; simp)).1;rw [show (X[0]'(by rw [V]; simp)) = c0 by simp [V]] at h;exact S _ _ h
 obtain rfl := hC.out.2 zT;have ys : Hid (c0.unit = ua \/ ∃ j, j < n /\ L[j + 1]?.getD 0 = z) := yc.imp id fun ⟨j, h1, h2⟩ => ⟨j, yl.out j h1, h2⟩;generalize c0.unit = cu0 at *;clear yc zb S A hh V zT hC m hK;have yJ := dM.lt;have yI := dD.lt;have yK := dV.lt;have yQ : ((D : Int) == 0) = false := by rw [beq_eq_false_iff_ne]; omega
 go_wp2_with fail;go_loopw [22, 23] (fun t22 t23 wr => ∃ i : Nat, t22 = .string (RS (atI X i)) /\ t23 = .int .i64 i /\ i <= D /\ Below od.heap.size od wr) (fun t22 t23 _ => D - (RowKit.intOf t23).toNat)
 case atStart => exact ⟨0, by rw [show atI X 0 = 0 from rfl, RS_zero], rfl, Nat.zero_le _, Below.refl _ _⟩
 case round =>
  obtain ⟨i, rfl, rfl, hi, Y⟩ := hrel;have z6 := zbt hn Y;by_cases h : i < D
  ·obtain ⟨y1, y2, y5, Q, s2⟩ := yh.out i h
   have z1 := zcq Y h8 y1;have z2 := zcq Y h8 y2;have yN : (i : Int) < (D : Int) := by omega
   have K : Hid (∀ w', Good w' -> _) := fun w' hg' => rCa (atI X i) (atI X (i + 1)) 19 (by omega) (by omega) Q s2 w' hg'
   have zU : cmpQ (atI X i) (atI X (i + 1)) = -1 := cQl y5;rw [zU] at K;generalize atI X i = f1 at *;obtain ⟨f2, zc⟩ : ∃ f, f = atI X (i + 1) := ⟨_, rfl⟩;rw [<- zc] at K z2;have yj := hid zc;clear zU y1 y2 y5 Q s2 zc;have zX : Good wr.drew := (R.below z6).drewN 1;have zY : C < wr.heap.size := Nat.lt_of_lt_of_le h8 Y.size;go_upto_region 21 with fail;go_cut [130] (fun s wx => s = .bool false /\ Below wr.heap.size wr wx)
   case first =>
    go_region_held3 (fun w' => w'.cell? ⟨C, i * 3 + 1, none⟩ = some (.string (RS f1)) /\ w'.cell? ⟨C, i * 3 + 2, none⟩ = some (.string (RS f2)))
     (first | exact ⟨z1, z2⟩ | exact ⟨p_1_0, p_1_1⟩)
     (first
     | (go_at_call 15; refine (K.out _ zX).mono ?_; rintro e yg ⟨_, rfl, rfl, he⟩
        have p_1_0 := zct he z1;have p_1_1 := zct he z2;have yU : wr.heap.size <= yg.heap.size := he.size;have yT := zX.below he))
    have pB : Below wr.heap.size wr yg := zbt (bdN wr 1) he;go_wp2_with fail;go_meet;exact ⟨rfl, pB⟩
   case rest =>
   obtain ⟨rfl, zS⟩ := hcut;have z3 := zcq zS zY z2;clear z1 z2;go_wp2_with fail;go_roundw
   case rel => exact ⟨i + 1, by rw [yj.out], by simp, by omega, (zbt Y zS)⟩
   case measure =>
    show D - ((i : Int) + 1).toNat < D - (i : Int).toNat;omega
  ·obtain rfl : i = D := by omega
   rw [ym.out];have zC := zbt yy Y;have eM := dM.below Y yJ;have eD := dD.below Y yI;have eV := dV.below Y yK;have z0 := zcq Y h8 yv;have yq : Hid (∀ w', Good w' -> _) := fun w' hg' => rSa z q0 9 (by omega) (by omega) hk.out hN.out w' hg'
   go_wp2_with fail;refine zR (yq.out wr (R.below z6)) fun ws hbs => ?_;have z7 := zbt z6 hbs;have yz := zbt zC hbs;have fM := eM.bl hbs;have fD := eD.bl hbs;have fV := eV.bl hbs;have z1 := zcq hbs (Nat.lt_of_lt_of_le h8 Y.size) z0;clear z0 eM eD eV zC hbs Y;by_cases hu : cu0 = ua
   ·subst hu
    go_wp2_with fail;go_ret;exact ⟨_, rfl, rfl, z7⟩
   ·have yS : (cu0.toList == ua.toList) = false := by
     rw [beq_eq_false_iff_ne];exact fun e => hu ((bet (by rw [<- btL, <- btL]; exact e)))
    have yR : ¬ cu0.toList = ua.toList := fun e => hu ((bet (by rw [<- btL, <- btL]; exact e)))
    obtain ⟨j, hj, y0⟩ := ys.out.resolve_left hu;have yr : Hid (∀ w', Below o4.heap.size o4 w' -> Good w' -> _) := fun w' hb hg' => t2a w' hg' pp pt pb pu ps nP nT nP nU n cp ct cb cu cs (RS px) (RS py) z L (by omega) j hj y0
     (hid fun i hi => by
       obtain ⟨b, o, pf, nf, cf, e1, h1, h2, h3⟩ := yt.out i hi;exact ⟨b, o, pf, nf, cf, e1, Nat.lt_of_lt_of_le h1 hb.size, (zcq hb h1 h2 :), fun w2 hb2 hg2 => h3 w2 ((zbt hb hb2)) hg2⟩)
    clear hj y0;obtain ⟨m0, N⟩ := zk2 fM;obtain ⟨d0, d1, d2⟩ := zk3 fD;obtain ⟨v0, v1, v2⟩ := zk3 fV;go_wp2_with fail;refine zR (yr.out ws yz (R.below z7)) fun wt hbt => ?_;have yC := zbt z7 hbt;go_wp2_with fail;go_ret;exact ⟨_, rfl, rfl, yC⟩
end Go.Proofs.YtlodicfimpgibaaGreatDoor
