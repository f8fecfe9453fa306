import Derived.Test.YtmcbeajdloaliaaGreatDoorUS95
import Derived.Deep.CutBlock
import Derived.Lib.SlicesDelete
/- klippelaw28.slipped. stack.Remove of a right deposit. The error of a deposit is handed on by the functions of stack. -/
set_option maxHeartbeats 8000000
set_option maxRecDepth 100000
namespace Go.Proofs.YtmcbeajdloaliaaGreatDoor
open Go.RowKit Go.Lib Go.Shelf
theorem sp0 (w0 w : World) (pp pt pb pu ps : Option Addr) (cp ct L cu cs n base : Nat) (P : List PtQ) (T : List Tri) (B : List Rat) (U : List ByteArray) (S : List (List Rat)) (kd az : Int) (I d : ByteArray)
 (zd : Below w0.heap.size w0 w) (hD : DepN w0 (.slice pp P.length cp) (.slice pt T.length ct) (.slice pb P.length L) (.slice pu (n + 1) cu) (.slice ps n cs) P T 3 B U S) (vq : FlsV 33 w0 base (.slice ps n cs) S) (y4 : S.length = n) (y6 : U.length = n + 1) (jS : n <= 3) (xo : ∀ u ∈ U, u.size < 1000000000) (jN : 2 <= P.length)
 (xw : 0 <= kd /\ kd <= 255) (z9 : 0 <= az /\ az <= 255) (xj : I.size <= 40) (jT : d.size <= 40) :
 Calls Tryz.prog 27 #[.agg #[.slice pp P.length cp, .slice pt T.length ct], .agg #[.slice pb P.length L, .slice pu (n + 1) cu, .slice ps n cs], .agg #[.int .u8 kd, .int .u8 az, .string I, .string d]] w
  (Ret (fun r w' => ∃ (vt vb vu vs : Value) (T' : List Tri) (b U' : List ByteArray) (S' : List (List ByteArray)), r = .tuple #[.agg #[.slice pp P.length cp, vt], .agg #[vb, vu, vs]] /\ (∀ wy, Kq w0.heap.size w.heap.size w' wy -> DepT wy (.slice pp P.length cp) vt vb vu vs P T' 40 b U' S') /\ ∀ u ∈ U', u.size < 1000000000) w) := by
 have jU := hD.m.plen;have HD := hid hD;have hN := hid y4;have zm := hid y6;have hl := hid xo;obtain ⟨us, yc, yS, yQ⟩ := vq;rw [y4] at yc yS;have yq : ∀ u ∈ us, u.oneCell' = true := fun u X => by
  obtain ⟨i, hi, rfl⟩ := List.getElem_of_mem X;obtain ⟨p, c, e⟩ := (yQ i _ _ (List.getElem?_eq_getElem hi) (List.getElem?_eq_getElem (by rw [y4, <- yc]; exact hi))).shape;rw [e]; rfl
 have x5 := hid yq;have x8 := hid yQ;have xa := hid yS;have hV := hid yc;obtain ⟨UV, zw⟩ : ∃ l : List Value, l = U.map fun x => Value.string x := ⟨_, rfl⟩;have xc : Hid (UV.length = n + 1) := by unfold Hid; rw [zw, List.length_map]; exact y6
 have zo := hid zw;have x9 : Hid (∀ u ∈ UV, u.oneCell' = true) := fun u X => by
  rw [zw] at X;obtain ⟨x, -, rfl⟩ := List.mem_map.1 X;rfl
 have xm : SrcR w (.slice pu (n + 1) cu) (n + 1) 1 UV := by
  obtain ⟨q, c', hv, h1, h2, h3, h4⟩ := RdC.below hD.unit zd;injection hv with e1 e2 e3
  obtain ⟨b', off, hq, hc⟩ := h4 (List.ne_nil_of_length_pos (by rw [List.length_map, y6]; omega));refine .inr ⟨⟨b', off, none⟩, cu, by rw [e1, hq], by rw [xc.out, Nat.mul_one], fun j u X => ?_⟩;rw [aps];exact hc j u (by rw [<- zw]; exact X)
 have zn := hid xm;clear hD y4 y6 xo yc yS yQ yq zw xm;go_enter Tryz.func27, Tryz.ntmps27;go_upto_region 1 with fail;obtain ⟨g3, yH⟩ : ∃ g, g = w.heap.size := ⟨_, rfl⟩;obtain ⟨M, yI⟩ : ∃ g, g = w.heap.size + 1 := ⟨_, rfl⟩;obtain ⟨g5, yJ⟩ : ∃ g, g = w.heap.size + 1 + 1 := ⟨_, rfl⟩;obtain ⟨g6, yK⟩ : ∃ g, g = w.heap.size + 1 + 1 + 1 := ⟨_, rfl⟩;obtain ⟨g7, yL⟩ : ∃ g, g = w.heap.size + 1 + 1 + 1 + 1 := ⟨_, rfl⟩;obtain ⟨W, hW⟩ := zex (((((w.alloc (.cells #[.slice pp P.length cp, .slice pt T.length ct] 41)).alloc (.cells #[.slice pb P.length L, .slice pu (n + 1) cu, .slice ps n cs] 45)).alloc (.cells #[.int .u8 kd, .int .u8 az, .string I, .string d] 77)).alloc (.cells #[.slice none 0 0, .slice none 0 0] 41)).alloc (.cells #[.slice none 0 0, .slice none 0 0, .slice none 0 0] 45));have hB : Below w.heap.size w W := by rw [hW]; exact (((((Below.refl _ _).alloc (Nat.le_refl _) _).alloc (by simp) _).alloc (by simp; omega) _).alloc (by simp; omega) _).alloc (by simp; omega) _
 have b3 : BoxN W g3 41 [.slice pp P.length cp, .slice pt T.length ct] := by rw [hW]; exact ((((BoxN.new _ _ _ _ yH.symm).alloc _).alloc _).alloc _).alloc _
 have b4 : BoxN W M 45 [.slice pb P.length L, .slice pu (n + 1) cu, .slice ps n cs] := by rw [hW]; exact (((BoxN.new _ #[.slice pb P.length L, .slice pu (n + 1) cu, .slice ps n cs] _ _ (by simp [yI])).alloc _).alloc _).alloc _
 have b5 : BoxN W g5 77 [.int .u8 kd, .int .u8 az, .string I, .string d] := by rw [hW]; exact ((BoxN.new _ #[.int .u8 kd, .int .u8 az, .string I, .string d] _ _ (by simp [yJ])).alloc _).alloc _
 have b6 : BoxN W g6 41 [.slice none 0 0, .slice none 0 0] := by rw [hW]; exact (BoxN.new _ #[.slice none 0 0, .slice none 0 0] _ _ (by simp [yK])).alloc _
 have b7 : BoxN W g7 45 [.slice none 0 0, .slice none 0 0, .slice none 0 0] := by rw [hW]; exact BoxN.new _ _ _ _ (by simp [yL])
 have N : g3 ≠ M /\ g6 ≠ M /\ g7 ≠ M /\ g5 ≠ M /\ g6 ≠ g3 /\ g7 ≠ g3 /\ g5 ≠ g3 := ⟨by omega, by omega, by omega, by omega, by omega, by omega, by omega⟩;have xH : g7 ≠ g6 := by omega
 have t : w.heap.size <= g3 /\ w.heap.size <= M /\ w.heap.size <= g6 /\ w.heap.size <= g7 := ⟨by omega, by omega, by omega, by omega⟩;rw [<- hW, <- yL, <- yK, <- yJ, <- yI, <- yH];clear hW yH yI yJ yK yL;have l3 := b3.lt;have l4 := b4.lt;have l5 := b5.lt;have l6 := b6.lt;have l7 := b7.lt;have hP : g6 < W.heap.size /\ g7 < W.heap.size /\ M < W.heap.size /\ g3 < W.heap.size := ⟨l6, l7, l4, l3⟩;have zk : Hid (SrcR (W.alloc (.cells #[] 9)) (.slice pu (n + 1) cu) (n + 1) 1 UV) := (zn.out.below hB).below ((Below.refl _ _).alloc (Nat.le_refl _) _);have hh := hid (on0 W W.heap.size 9 (Nat.le_refl _));obtain ⟨k0, yb, yd, ye, yf⟩ := info_parts iSg;have vd := (b4.alloc (.cells #[] 9)).cell 1 rfl;have xp := hB.size
 go_upto_region 2 with (at_builtin; refine wLa _ rfl _ _ 42 rfl W.heap.size 9 k0 (.string ⟨#[]⟩) 1 16 Tryz.underlying42 yb yd ye yf rfl (by decide) _ _ _ rfl hh.out _ (n + 1) UV rfl zk.out x9.out (by unfold maxLen; omega) (by omega) (by simp) ?_
                        intro v3 oA J hE;rw [Nat.zero_add] at J;have D : Below W.heap.size W oA := ((Below.refl W.heap.size W).alloc (Nat.le_refl _) (.cells #[] 9)).grown hE (by simp) (fun j hj => (hh.out.lt j hj).1);have a4 := b4.below D l4;have vh := a4.cell 1 rfl;have xh := a4.frozen 1;obtain ⟨gU, cU, rfl, vy, vZ, vv, xt⟩ := obk J (by omega))
 obtain ⟨o1, zb⟩ : ∃ x, x = oA.setCell ⟨M, 1, none⟩ (.slice (some ⟨gU, 0, none⟩) (n + 1) cU) := ⟨_, rfl⟩;have z : oA.grownBy o1 (some M) := by rw [zb]; exact gst (grl oA _) 1 _
 have c4 : BoxN o1 M 45 [.slice pb P.length L, .slice (some ⟨gU, 0, none⟩) (n + 1) cU, .slice ps n cs] := by rw [zb]; exact a4.set 1 _
 have c3 := (b3.below D l3).gb z (fun e => N.1 (Option.some.inj e).symm);have c5 := (b5.below D l5).gb z (fun e => N.2.2.2.1 (Option.some.inj e).symm);have c6 := (b6.below D l6).gb z (fun e => N.2.1 (Option.some.inj e).symm);have c7 := (b7.below D l7).gb z (fun e => N.2.2.1 (Option.some.inj e).symm);have xl := World.ownsRow.kept J z (.inr (fun e => obN J a4 (by decide) e.symm));have zZ : Below w.heap.size w o1 := by rw [zb]; exact (hB.trans (D.mono xp)).setCell (p := ⟨M, 1, none⟩) t.2.1 _
 have xF : W.heap.size <= o1.heap.size := by rw [zb]; simpa using D.size
 rw [<- zb];clear zb z a4 J hE hh zk vd vh xh b3 b4 b5 b6 b7 hB;have zl : Hid (SrcR (o1.alloc (.cells #[] 33)) (.slice ps n cs) n 1 us) := ((osc xa.out).below ((zbt zd zZ))).below ((Below.refl _ _).alloc (Nat.le_refl _) _);have hh := hid (on0 o1 W.heap.size 33 xF);obtain ⟨j0, xv, xD, ha, xE⟩ := info_parts iFd;have ve := (c4.alloc (.cells #[] 33)).cell 2 rfl;have yi := zZ.size;have l3 := c3.lt;have l4 := c4.lt;have l5 := c5.lt;have l6 := c6.lt;have l7 := c7.lt
 go_upto_region 3 with (at_builtin; refine wLa _ rfl _ _ 43 rfl W.heap.size 33 j0 (.slice none 0 0) 1 24 Tryz.underlying43 xv xD ha xE rfl (by decide) _ _ _ rfl hh.out _ n us rfl zl.out x5.out (by unfold maxLen; omega) (by omega) (by simp; omega) ?_
                        intro v3 oA J hE;rw [Nat.zero_add] at J;have D : Below o1.heap.size o1 oA := ((Below.refl o1.heap.size o1).alloc (Nat.le_refl _) (.cells #[] 33)).grown hE (by simp) (fun j hj => by cases hj; exact Nat.le_refl _);have a4 := c4.below D l4;have vi := a4.cell 2 rfl;have vk := a4.frozen 2;obtain ⟨pS, cS, rfl⟩ := oRs J)
 obtain ⟨Q, zc⟩ : ∃ x, x = oA.setCell ⟨M, 2, none⟩ (.slice pS n cS) := ⟨_, rfl⟩;have z : oA.grownBy Q (some M) := by rw [zc]; exact gst (grl oA _) 2 _
 have d4 : BoxN Q M 45 [.slice pb P.length L, .slice (some ⟨gU, 0, none⟩) (n + 1) cU, .slice pS n cS] := by rw [zc]; exact a4.set 2 _
 have d3 := (c3.below D l3).gb z (fun e => N.1 (Option.some.inj e).symm);have d5 := (c5.below D l5).gb z (fun e => N.2.2.2.1 (Option.some.inj e).symm);have d6 := (c6.below D l6).gb z (fun e => N.2.1 (Option.some.inj e).symm);have d7 := (c7.below D l7).gb z (fun e => N.2.2.1 (Option.some.inj e).symm);have h0 := World.ownsRow.kept J z (.inr (fun e => obN J a4 (by decide) e.symm));have zv := WRA xl D;have he := World.ownsRow.kept zv z (.inr (fun e => obN zv a4 (by decide) e.symm));have a : Below w.heap.size w Q := by rw [zc]; exact (zZ.trans (D.mono yi)).setCell (p := ⟨M, 2, none⟩) t.2.1 _
 have yg : W.heap.size <= Q.heap.size := by rw [zc]; have := D.size; simp; omega
 have yE : w.heap.size <= W.heap.size := xp;rw [<- zc];clear zc z a4 J hE hh zl ve vi vk c3 c4 c5 c6 c7 zZ xl zv D zn xa yi xF;obtain ⟨k9, ka⟩ := zk2 d5;have l3 := d3.lt;have l4 := d4.lt;have l5 := d5.lt;have l6 := d6.lt;have l7 := d7.lt;obtain ⟨rd, yO, j6⟩ : ∃ r : Nat, kd.tmod 9 = (r : Int) /\ r <= 8 := ⟨(kd.tmod 9).toNat, by have := Int.tmod_nonneg 9 xw.1; omega, by have := Int.tmod_lt_of_pos kd (show (0 : Int) < 9 by decide); have := Int.tmod_nonneg 9 xw.1; omega⟩;have jY : IntKind.i64.wrap az = az := IntWalk.i64_in _ (by omega)
 go_upto_block 0 with fail
 go_cut [] (fun wx => SlipR w0 w W.heap.size g3 M g6 g7 P (.slice pp P.length cp) wx)
 case first =>
  have y3 : P.length <= 1000000 := by omega
  have hX : Below w0.heap.size w0 Q := zbt zd a;have HQ : Hid (∀ wy, Below w0.heap.size w0 wy -> RdP wy (.slice pp P.length cp) (strP P) /\ RdT wy (.slice pt T.length ct) T /\ RdS wy (.slice pb P.length L) (B.map RS)) := fun wy V => ⟨RdC.below HD.out.p V, RdC.below HD.out.t V, (show RdQ wy _ B from RdC.below HD.out.base V).toS⟩;have yt : Hid (∀ wy, Below w0.heap.size w0 wy -> ∀ (i : Nat) (u : Value) (F : List ByteArray), us[i]? = some u -> (S.map fun F => F.map RS)[i]? = some F -> RdS wy u F) := fun wy V i u F X hF => by
   rw [List.getElem?_map] at hF;cases hS : S[i]? with
   | none => rw [hS] at hF; cases hF
   | some G => rw [hS] at hF; cases hF; exact (show RdQ wy u G from RdC.below (x8.out i u G X hS).rd V).toS
  have zj : Hid (∀ (wy : World) (base : Nat) (v : Value), wy.ownsRow base 9 1 v (n + 1) UV -> RdS wy v U) := fun wy base v h => by
   have h5 := RdC.of_owns h;rw [zo.out] at h5;unfold RdS;rw [zm.out];exact h5
  have hy : Hid (∀ (wy : World) (base : Nat) (v : Value), Below w0.heap.size w0 wy -> wy.ownsRow base 33 1 v n us -> RdTx wy v (S.map fun F => F.map RS)) := fun wy base v V h => ⟨us, by rw [List.length_map, hN.out]; exact RdC.of_owns h, yt.out wy V⟩
  have zX : Hid (OkF P.length (B.map RS)) := OkF.old y3 (HD.out.fl B (by simp)) (HD.out.fs B (by simp));have zY : Hid (∀ F ∈ S.map (fun F => F.map RS), OkF P.length F) := fun F hF => by
   obtain ⟨R, hR, rfl⟩ := List.mem_map.1 hF;exact OkF.old y3 (HD.out.fl R (by simp [hR])) (HD.out.fs R (by simp [hR]))
  have hL : Hid (∀ F ∈ B.map RS :: S.map (fun F => F.map RS), OkF P.length F) := fun F hF => by
   rcases List.mem_cons.1 hF with rfl | h
   ·exact zX.out
   ·exact zY.out F h
  have f : Hid (∀ (wx : World) (zD zB zF zC : Value) (T' : List Tri) (b' U' : List ByteArray) (S' : List (List ByteArray)), BoxN wx g3 41 [.slice pp P.length cp, zD] -> BoxN wx M 45 [zB, zF, zC] -> BoxN wx g6 41 [.slice none 0 0, .slice none 0 0] -> BoxN wx g7 45 [.slice none 0 0, .slice none 0 0, .slice none 0 0] -> Below w.heap.size w wx -> (T' = T \/ T' = []) ->
   (∀ wy, Kq w0.heap.size W.heap.size wx wy -> Below w0.heap.size w0 wy -> RdT wy zD T' /\ RdS wy zB b' /\ RdS wy zF U' /\ RdTx wy zC S') -> (∀ F ∈ b' :: S', OkF P.length F) -> (∀ u ∈ U', u.size < 1000000000) -> SlipR w0 w W.heap.size g3 M g6 g7 P (.slice pp P.length cp) wx) := fun wx zD zB zF zC T' b' U' S' h3 h4 h6 h7 V hT hr hok hz =>
   ⟨zD, zB, zF, zC, T', b', U', S', h3, h4, h6, h7, fun wy k => by
    have xq := k.2 w0 rfl ((zbt zd V));obtain ⟨r1, r2, r3, r4⟩ := hr wy k xq
    exact slipD (HQ.out wy xq).1 r1 HD.out.m hT r2 r3 r4 hok, hz, V⟩
  obtain ⟨g', c', lU, e, -, bU, -, -, yN, yP⟩ := boo he (by omega);injection e with e1 e2 e3
  injection e1 with e1
  injection e1 with e1 _ _
  subst e1 e3;clear e2;rcases (by omega : rd = 0 \/ rd = 1 \/ rd = 2 \/ rd = 3 \/ rd = 4 \/ rd = 5 \/ rd = 6 \/ rd = 7 \/ rd = 8) with rfl | rfl | rfl | rfl | rfl | rfl | rfl | rfl | rfl
  ·as_aux_lemma =>
    go_wp2_with fail;go_meet;exact f.out Q _ _ _ _ T _ U _ d3 d4 d6 d7 a (.inl rfl) (fun wy k V => ⟨(HQ.out wy V).2.1, (HQ.out wy V).2.2, zj.out _ _ _ (k.1 (Nat.le_refl _) he), hy.out _ _ _ V (k.1 (Nat.le_refl _) h0)⟩) hL.out hl.out
  ·as_aux_lemma =>
    have x1 := d3.cell 1 rfl;have f1 := d3.frozen 1;have q := gst (grl Q (some g3)) 1 (.slice none 0 0);go_wp2_with fail;go_meet;exact f.out _ _ _ _ _ [] _ U _ (d3.set 1 _) (d4.gb q (fun e => N.1 (Option.some.inj e))) (d6.gb q (fun e => N.2.2.2.2.1 (Option.some.inj e).symm)) (d7.gb q (fun e => N.2.2.2.2.2.1 (Option.some.inj e).symm)) (a.setCell (p := ⟨g3, 1, none⟩) t.1 _) (.inr rfl) (fun wy k V => ⟨rnl _, (HQ.out wy V).2.2, zj.out _ _ _ (k.1 (Nat.le_refl _) (World.ownsRow.kept he q (.inr (fun e => obN he d3 (by decide) e.symm)))), hy.out _ _ _ V (k.1 (Nat.le_refl _) (World.ownsRow.kept h0 q (.inr (fun e => obN h0 d3 (by decide) e.symm))))⟩) hL.out hl.out
  ·as_aux_lemma =>
    obtain ⟨FT, hn⟩ : ∃ F, F = B.map RS := ⟨_, rfl⟩;have hJ : Hid (FT.length = P.length) := by unfold Hid; rw [hn, List.length_map]; exact HD.out.fl B (by simp)
    obtain ⟨bb, ob, hO, eb, hA, h9⟩ := (show RdQ w0 _ B from HD.out.base).cells (by rw [HD.out.fl B (by simp)]; omega);injection eb with e1 e2 e3
    subst e1 e3;clear e2;obtain ⟨_, _, e, zy, -, -⟩ := (HQ.out w0 (Below.refl _ _)).2.2.open;rw [<- hn, hJ.out] at e zy;injection e with e1 e2 e3
    subst e3;clear e1 e2;have zx : bb < Q.heap.size := Nat.lt_of_lt_of_le hA hX.size;have ys : Hid (∀ (j : Nat) (u : Value), (FT.map fun x => Value.string x)[j]? = some u -> Q.cell? ⟨bb, ob + j, none⟩ = some u) := fun j u X => by
     rw [hn, List.map_map, List.getElem?_map] at X;cases hj : B[j]? with
     | none => rw [hj] at X; cases X
     | some q =>
       rw [hj] at X;cases X;obtain ⟨h1, h2⟩ := List.getElem?_eq_some_iff.1 hj;have h5 := h9 j h1;rw [hh0 B j h1, h2] at h5;exact (zcq hX hA h5 :)
    have hC : ¬ L = 1 := by omega
    have yG : ¬ 1 = L := by omega
    have vl : (1 : Int) <= (P.length : Int) := by omega
    have vo : (P.length : Int) <= (L : Int) := by omega
    have xi : 1 <= P.length := by omega
    have hg : (FT.map fun x => Value.string x).length = P.length := by rw [List.length_map]; exact hJ.out
    have hM : Hid (∀ w', Below Q.heap.size Q w' -> SrcR w' (.slice (some ⟨bb, ob + 1, none⟩) (P.length - 1) (L - 1)) (P.length - 1) 1 (FT.map fun x => Value.string x).tail) := fun w' V => by
     have h5 := spt (w := w') (b := bb) (o := ob) (c := L) (k := 1) (m := P.length - 1) (xs := FT.map fun x => Value.string x) (fun j u X => (zcq V zx (ys.out j u X) :)) (by rw [hg]; omega) (.slice (some ⟨bb, ob + 1, none⟩) (P.length - 1) (L - 1)) (by rw [if_neg hC]) (fun h => absurd h hC);rw [List.take_of_length_le (by rw [List.length_drop, hg]; exact Nat.le_refl _), List.drop_one] at h5;exact h5
    have hf : Hid (∀ u ∈ (FT.map fun x => Value.string x).tail, u.oneCell' = true) := fun u X => by
     obtain ⟨x, -, rfl⟩ := List.mem_map.1 (List.mem_of_mem_tail X);rfl
    have g0 : Below Q.heap.size Q Q.drew := bdN Q 1;have HA : Hid (∀ w', Below Q.heap.size Q w' -> w'.cell? ⟨g5, 2, none⟩ = some (.string I)) := fun w' V => (d5.below V l5).cell 2 rfl;have HB : Hid (∀ w', Below Q.heap.size Q w' -> w'.cell? ⟨M, 0, none⟩ = some (.slice (some ⟨bb, ob, none⟩) P.length L)) := fun w' V => (d4.below V l4).cell 0 rfl;have y9 : W.heap.size <= Q.heap.size := yg;have hH : Hid (∀ (wz : World) (p : Option Addr) (m c : Nat), Below Q.heap.size Q wz -> wz.ownsRow Q.heap.size 55 1 (.slice p m c) P.length ([] ++ (FT.map fun x => Value.string x).tail ++ [.string I]) -> wz.cell? ⟨M, 0, none⟩ = some (.slice (some ⟨bb, ob, none⟩) P.length L) /\ wz.frozen? ⟨M, 0, none⟩ = false /\ (wz.setCell ⟨M, 0, none⟩ (.slice p m c)).cell? ⟨g5, 2, none⟩ = some (.string I) /\ SlipR w0 w W.heap.size g3 M g6 g7 P (.slice pp P.length cp) (wz.setCell ⟨M, 0, none⟩ (.slice p m c))) := fun wz p m c V hr => by
     have z4 := d4.below V l4;have q := gst (grl wz (some M)) 0 (.slice p m c);have yF := zbt a V;have rU := WRA he V;have rS := WRA h0 V;refine ⟨z4.cell 0 rfl, z4.frozen 0, ((d5.below V l5).gb q (fun e => N.2.2.2.1 (Option.some.inj e).symm)).cell 2 rfl, ?_⟩;exact f.out _ _ _ _ _ T (swapT FT I) U _ ((d3.below V l3).gb q (fun e => N.1 (Option.some.inj e).symm)) (z4.set 0 _) ((d6.below V l6).gb q (fun e => N.2.1 (Option.some.inj e).symm)) ((d7.below V l7).gb q (fun e => N.2.2.1 (Option.some.inj e).symm)) (yF.setCell (p := ⟨M, 0, none⟩) t.2.1 _) (.inl rfl)
      (fun wy k hb' => ⟨(HQ.out wy hb').2.1, rsp (k.1 yg (World.ownsRow.kept hr q (.inr (fun e => obN hr z4 (by decide) e.symm)))) hJ.out (by omega), zj.out _ _ _ (k.1 (Nat.le_refl _) (World.ownsRow.kept rU q (.inr (fun e => obN rU z4 (by decide) e.symm)))), hy.out _ _ _ hb' (k.1 (Nat.le_refl _) (World.ownsRow.kept rS q (.inr (fun e => obN rS z4 (by decide) e.symm))))⟩)
      (fun F hF => by
        rcases List.mem_cons.1 hF with rfl | h
        ·rw [hn]; exact OkF.swap y3 (HD.out.fl B (by simp)) (HD.out.fs B (by simp)) xj
        ·exact zY.out F h) hl.out
    clear h9 hg;go_upto_region 8 with fail;refine AnyL.region (S := Till 10 (fun w' => w'.cell? ⟨g5, 2, none⟩ = some (.string I)) (fun w' => w'.cell? ⟨M, 0, none⟩ = some (.slice (some ⟨bb, ob, none⟩) P.length L))) (by kernel_rfl) ?_;have Z : Till 10 (fun w' => w'.cell? ⟨g5, 2, none⟩ = some (.string I)) (fun w' => w'.cell? ⟨M, 0, none⟩ = some (.slice (some ⟨bb, ob, none⟩) P.length L)) (Array.replicate 11 false) _ := ⟨HA.out _ g0, fun _ => HB.out _ g0⟩;refine zlk 1 Z ?_;try simp only [Act.put, List.getElem_toArray, List.getElem_cons_zero, List.getElem_cons_succ, List.setIfInBounds_toArray, List.set_cons_zero, List.set_cons_succ]
    refine AnyL.take2 (i := 2) (oi := _) (v := ?_) rfl (by kernel_rfl) (by kernel_rfl) (by kernel_rfl) (by decide) (ok := _) rfl (by kernel_rfl) (by kernel_rfl) (fun _ _ _ h => h) (Or.inl ⟨by rfl, ?_⟩) ⟨Z.1, fun _ => Z.2 (by rfl)⟩ ?_;rotate_left
    ·intro w yC; (try dsimp only at yC); first | (go_simp; done) | (go_simp; with_reducible rfl)
    try simp only [Act.put, List.getElem_toArray, List.getElem_cons_zero, List.getElem_cons_succ, List.setIfInBounds_toArray, List.set_cons_zero, List.set_cons_succ]
    refine zlk 3 Z ?_;try simp only [Act.put, List.getElem_toArray, List.getElem_cons_zero, List.getElem_cons_succ, List.setIfInBounds_toArray, List.set_cons_zero, List.set_cons_succ]
    refine zlk 5 Z ?_;try simp only [Act.put, List.getElem_toArray, List.getElem_cons_zero, List.getElem_cons_succ, List.setIfInBounds_toArray, List.set_cons_zero, List.set_cons_succ]
    refine zlk 6 Z ?_;try simp only [Act.put, List.getElem_toArray, List.getElem_cons_zero, List.getElem_cons_succ, List.setIfInBounds_toArray, List.set_cons_zero, List.set_cons_succ]
    refine any2 0 7 (fun K hK => ?_) (fun K hK => ?_)
    ·go_simp
     have zG := bAl g0 (.cells #[] 55);have xV := on0 Q.drew Q.heap.size 55 g0.size;refine hK.out _ _ ⟨HA.out _ zG, fun _ => HB.out _ zG⟩ (fun Z => ?_);clear hK K;try simp only [Act.put, List.getElem_toArray, List.getElem_cons_zero, List.getElem_cons_succ, List.setIfInBounds_toArray, List.set_cons_zero, List.set_cons_succ]
     refine any2 4 7 (fun K hK => ?_) (fun K hK => ?_)
     ·refine appQ 31 34 zG xV (hM.out _ zG) hf.out (by omega) ?_
      intro km x3 vV yU kf;refine hK.out _ _ ⟨HA.out _ yU, fun _ => HB.out _ yU⟩ (fun Z => ?_);clear hK K;try simp only [Act.put, List.getElem_toArray, List.getElem_cons_zero, List.getElem_cons_succ, List.setIfInBounds_toArray, List.set_cons_zero, List.set_cons_succ]
      refine any1 7 (fun K hK => ?_);go_simp;have yV := bAl yU (.cells #[.string I] 55);have vW := vV.alloc (.cells #[.string I] 55);have zc3 : BoxN (x3.alloc (.cells #[.string I] 55)) (x3.heap.size) 55 [.string I] := BoxN.new _ _ _ _ (by simp);refine hK.out _ _ ⟨HA.out _ yV, fun _ => HB.out _ yV⟩ (fun Z => ?_);clear hK K;try simp only [Act.put, List.getElem_toArray, List.getElem_cons_zero, List.getElem_cons_succ, List.setIfInBounds_toArray, List.set_cons_zero, List.set_cons_succ]
      refine any1 8 (fun K hK => ?_);refine appQ 35 38 yV vW (.inr ⟨⟨x3.heap.size, 0, none⟩, 1, rfl, rfl, fun j u X => by rw [aps, Nat.zero_add]; exact zc3.cell j X⟩ : SrcR _ _ 1 1 [.string I]) (by intro u X; simp at X; subst X; rfl) (by omega) ?_;intro kn kq yZ yW kg;rw [show 0 + (P.length - 1) + 1 = P.length by omega] at yZ;obtain ⟨kk, ki, rfl⟩ := oRs yZ;refine hK.out _ _ ⟨HA.out _ yW, fun _ => HB.out _ yW⟩ (fun Z => ?_);clear hK K;try simp only [Act.put, List.getElem_toArray, List.getElem_cons_zero, List.getElem_cons_succ, List.setIfInBounds_toArray, List.set_cons_zero, List.set_cons_succ]
      refine zlk 9 Z ?_;try simp only [Act.put, List.getElem_toArray, List.getElem_cons_zero, List.getElem_cons_succ, List.setIfInBounds_toArray, List.set_cons_zero, List.set_cons_succ]
      refine any1 10 (fun K hK => ?_)
      ·obtain ⟨zq, zf, za, zE⟩ := hH.out _ _ _ _ yW yZ
       go_simp;refine hK.out _ _ ⟨za, fun hk => (by simp at hk)⟩ (fun Z => ?_);clear hK K;try simp only [Act.put, List.getElem_toArray, List.getElem_cons_zero, List.getElem_cons_succ, List.setIfInBounds_toArray, List.set_cons_zero, List.set_cons_succ]
       refine AnyL.done (by kernel_rfl) ?_ _;go_wp2_with fail;go_meet;exact zE
     ·go_simp
      have yh := bAl zG (.cells #[.string I] 55);have vX := xV.alloc (.cells #[.string I] 55);have vS : BoxN ((Q.drew.alloc (.cells #[] 55)).alloc (.cells #[.string I] 55)) (Q.heap.size + 1) 55 [.string I] := BoxN.new _ _ _ _ (by simp);refine hK.out _ _ ⟨HA.out _ yh, fun _ => HB.out _ yh⟩ (fun Z => ?_);clear hK K;try simp only [Act.put, List.getElem_toArray, List.getElem_cons_zero, List.getElem_cons_succ, List.setIfInBounds_toArray, List.set_cons_zero, List.set_cons_succ]
      refine any1 4 (fun K hK => ?_);refine appQ 31 34 yh vX (hM.out _ yh) hf.out (by omega) ?_;intro ko kr vY yX vU;have vT := vS.gb vU (by simp [Value.ownBlock] <;> omega);refine hK.out _ _ ⟨HA.out _ yX, fun _ => HB.out _ yX⟩ (fun Z => ?_);clear hK K;try simp only [Act.put, List.getElem_toArray, List.getElem_cons_zero, List.getElem_cons_succ, List.setIfInBounds_toArray, List.set_cons_zero, List.set_cons_succ]
      refine any1 8 (fun K hK => ?_);refine appQ 35 38 yX vY (.inr ⟨⟨Q.heap.size + 1, 0, none⟩, 1, rfl, rfl, fun j u X => by rw [aps, Nat.zero_add]; exact vT.cell j X⟩ : SrcR _ _ 1 1 [.string I]) (by intro u X; simp at X; subst X; rfl) (by omega) ?_;intro kp ks x2 yY kh;rw [show 0 + (P.length - 1) + 1 = P.length by omega] at x2;obtain ⟨kl, kj, rfl⟩ := oRs x2;refine hK.out _ _ ⟨HA.out _ yY, fun _ => HB.out _ yY⟩ (fun Z => ?_);clear hK K;try simp only [Act.put, List.getElem_toArray, List.getElem_cons_zero, List.getElem_cons_succ, List.setIfInBounds_toArray, List.set_cons_zero, List.set_cons_succ]
      refine zlk 9 Z ?_;try simp only [Act.put, List.getElem_toArray, List.getElem_cons_zero, List.getElem_cons_succ, List.setIfInBounds_toArray, List.set_cons_zero, List.set_cons_succ]
      refine any1 10 (fun K hK => ?_)
      ·obtain ⟨zq, zf, za, zE⟩ := hH.out _ _ _ _ yY x2
       go_simp;refine hK.out _ _ ⟨za, fun hk => (by simp at hk)⟩ (fun Z => ?_);clear hK K;try simp only [Act.put, List.getElem_toArray, List.getElem_cons_zero, List.getElem_cons_succ, List.setIfInBounds_toArray, List.set_cons_zero, List.set_cons_succ]
       refine AnyL.done (by kernel_rfl) ?_ _;go_wp2_with fail;go_meet;exact zE
    ·go_simp
     have z0 := bAl g0 (.cells #[.string I] 55);have xJ : BoxN (Q.drew.alloc (.cells #[.string I] 55)) (Q.heap.size) 55 [.string I] := BoxN.new _ _ _ _ (by simp);refine hK.out _ _ ⟨HA.out _ z0, fun _ => HB.out _ z0⟩ (fun Z => ?_);clear hK K;try simp only [Act.put, List.getElem_toArray, List.getElem_cons_zero, List.getElem_cons_succ, List.setIfInBounds_toArray, List.set_cons_zero, List.set_cons_succ]
     refine any1 0 (fun K hK => ?_);go_simp;have z1 := bAl z0 (.cells #[] 55);have xK := xJ.alloc (.cells #[] 55);have xW := on0 (Q.drew.alloc (.cells #[.string I] 55)) Q.heap.size 55 z0.size;refine hK.out _ _ ⟨HA.out _ z1, fun _ => HB.out _ z1⟩ (fun Z => ?_);clear hK K;try simp only [Act.put, List.getElem_toArray, List.getElem_cons_zero, List.getElem_cons_succ, List.setIfInBounds_toArray, List.set_cons_zero, List.set_cons_succ]
     refine any1 4 (fun K hK => ?_);refine appQ 31 34 z1 xW (hM.out _ z1) hf.out (by omega) ?_;intro jr jz xX zH xS;have xL := xK.gb xS (by simp [Value.ownBlock] <;> omega);refine hK.out _ _ ⟨HA.out _ zH, fun _ => HB.out _ zH⟩ (fun Z => ?_);clear hK K;try simp only [Act.put, List.getElem_toArray, List.getElem_cons_zero, List.getElem_cons_succ, List.setIfInBounds_toArray, List.set_cons_zero, List.set_cons_succ]
     refine any1 8 (fun K hK => ?_);refine appQ 35 38 zH xX (.inr ⟨⟨Q.heap.size, 0, none⟩, 1, rfl, rfl, fun j u X => by rw [aps, Nat.zero_add]; exact xL.cell j X⟩ : SrcR _ _ 1 1 [.string I]) (by intro u X; simp at X; subst X; rfl) (by omega) ?_;intro js jA zQ zI jd;rw [show 0 + (P.length - 1) + 1 = P.length by omega] at zQ;obtain ⟨jn, ji, rfl⟩ := oRs zQ;refine hK.out _ _ ⟨HA.out _ zI, fun _ => HB.out _ zI⟩ (fun Z => ?_);clear hK K;try simp only [Act.put, List.getElem_toArray, List.getElem_cons_zero, List.getElem_cons_succ, List.setIfInBounds_toArray, List.set_cons_zero, List.set_cons_succ]
     refine zlk 9 Z ?_;try simp only [Act.put, List.getElem_toArray, List.getElem_cons_zero, List.getElem_cons_succ, List.setIfInBounds_toArray, List.set_cons_zero, List.set_cons_succ]
     refine any1 10 (fun K hK => ?_)
     ·obtain ⟨zq, zf, za, zE⟩ := hH.out _ _ _ _ zI zQ
      go_simp;refine hK.out _ _ ⟨za, fun hk => (by simp at hk)⟩ (fun Z => ?_);clear hK K;try simp only [Act.put, List.getElem_toArray, List.getElem_cons_zero, List.getElem_cons_succ, List.setIfInBounds_toArray, List.set_cons_zero, List.set_cons_succ]
      refine AnyL.done (by kernel_rfl) ?_ _;go_wp2_with fail;go_meet;exact zE
  ·as_aux_lemma =>
    obtain ⟨i, hi, ya⟩ : ∃ i : Nat, az.tmod ((n : Int) + 1) = (i : Int) /\ i < n + 1 := ⟨(az.tmod ((n : Int) + 1)).toNat, by have := Int.tmod_nonneg ((n : Int) + 1) z9.1; omega, by have := Int.tmod_lt_of_pos az (show (0 : Int) < (n : Int) + 1 by omega); have := Int.tmod_nonneg ((n : Int) + 1) z9.1; omega⟩;have vF : IntKind.i64.wrap (i : Int) = (i : Int) := IntWalk.i64_in _ (by omega);have jX : IntKind.i64.wrap ((n : Int) + 1) = (n : Int) + 1 := IntWalk.i64_in _ (by omega);have vz : (i : Int) < (n : Int) + 1 := by omega
    have vD : ¬ (n : Int) + 1 = 0 := by omega
    have xA : ((n : Int) + 1 == 0) = false := by rw [beq_eq_false_iff_ne]; omega
    obtain ⟨old, yp⟩ : ∃ u, lU[i]? = some u := ⟨_, List.getElem?_eq_getElem (by omega)⟩;have c0 := bU.cell i yp;have jG := bU.frozen i;have yv := d4.cell 1 rfl;have vI := d5.cell 3 rfl;have q := gst (grl Q (some gU)) i (.string d);have xy : gU ≠ M := fun e => by have := hP.2.2.1; omega
    have hZ : (Q.setCell ⟨gU, i, none⟩ (.string d)).ownsRow W.heap.size 9 1 (.slice (some ⟨gU, 0, none⟩) (n + 1) cU) (n + 1) (UV.set i (.string d)) := oob (bU.set i (.string d)) vy vv xt (by rw [List.length_set]; exact yN) (by rw [List.take_set, yP]; rfl);have hw : Hid (∀ (wy : World) (v : Value), wy.ownsRow W.heap.size 9 1 v (n + 1) (UV.set i (.string d)) -> RdS wy v (U.set i d)) := fun wy v h => by
     have h5 := RdC.of_owns h;rw [zo.out] at h5;unfold RdS;rw [List.length_set, zm.out, List.map_set];exact h5
    have yn := f.out ((Q.setCell ⟨gU, i, none⟩ (.string d)).drew) (.slice pt T.length ct) (.slice pb P.length L) (.slice (some ⟨gU, 0, none⟩) (n + 1) cU) (.slice pS n cS) T (B.map RS) (U.set i d) (S.map fun F => F.map RS) (d3.gb q (fun e => by have := Option.some.inj e; omega)).drew (d4.gb q (fun e => xy (Option.some.inj e))).drew (d6.gb q (fun e => by have := Option.some.inj e; omega)).drew (d7.gb q (fun e => by have := Option.some.inj e; omega)).drew (a.setCell (p := ⟨gU, i, none⟩) (by show w.heap.size <= gU; omega) _).drew (.inl rfl)
     (fun wy k V => ⟨(HQ.out wy V).2.1, (HQ.out wy V).2.2, hw.out _ _ (k.1 (Nat.le_refl _) (odw hZ)), hy.out _ _ _ V (k.1 (Nat.le_refl _) (odw (World.ownsRow.kept h0 q (.inr (fun e => obN h0 bU (by decide) e.symm)))))⟩) hL.out (fun u X => by
       rcases List.mem_or_eq_of_mem_set X with h | rfl
       ·exact hl.out u h
       ·omega)
    have x4 := hid yn;clear yn hZ yp yN yP;go_upto_region 10 with fail;go_region;all_goals
     go_wp2_with fail;go_meet;exact x4.out
  ·as_aux_lemma =>
    have yv := (d4.alloc (.cells #[.string d] 9)).cell 1 rfl;have xg := d4.cell 1 rfl;have vI := d5.cell 3 rfl;have Y := he.alloc (.cells #[.string d] 9);have hp := obN Y (d4.alloc (.cells #[.string d] 9)) (by decide);have ho := obN Y (d3.alloc (.cells #[.string d] 9)) (by decide);have hs := obN Y (d6.alloc (.cells #[.string d] 9)) (by decide);have ht := obN Y (d7.alloc (.cells #[.string d] 9)) (by decide);have hQ := a.size
    go_wp2_with (at_builtin; refine wpList_append_own _ rfl _ _ 42 rfl W.heap.size 9 k0 (.string ⟨#[]⟩) 1 16 Tryz.underlying42 yb yd ye yf rfl (by decide) _ _ _ rfl Y ⟨Q.heap.size, 0, none⟩ 1 1 [.string d] rfl rfl (cell_one_new _ _ _) (ocs _) (by unfold maxLen; omega) (by omega) (by simp; omega) ?_
                 intro v9 w9 A E _;have p4 := (d4.alloc (.cells #[.string d] 9)).gb E (fun e => hp e.symm);have q1 := p4.cell 1 rfl;have zA := p4.frozen 1;obtain ⟨p9, c9, rfl⟩ := oRs A)
    go_meet;have q := gst (grl w9 (some M)) 1 (.slice p9 (n + 1 + 1) c9);have y8 : Below w.heap.size w w9 := (a.alloc hQ (.cells #[.string d] 9)).grown E (by simp; omega) (fun j hj => by have := (Y.lt j hj).1; omega);have s3 := (d3.alloc (.cells #[.string d] 9)).gb E (fun e => ho e.symm);have s6 := (d6.alloc (.cells #[.string d] 9)).gb E (fun e => hs e.symm);have s7 := (d7.alloc (.cells #[.string d] 9)).gb E (fun e => ht e.symm);have s2 := World.ownsRow.kept (h0.alloc (.cells #[.string d] 9)) E (oat (h0.alloc (.cells #[.string d] 9)) Y (by decide));have hw : Hid (∀ (wy : World) (v : Value), wy.ownsRow W.heap.size 9 1 v (n + 1 + 1) (UV ++ [.string d]) -> RdS wy v (U ++ [d])) := fun wy v h => by
     have h5 := RdC.of_owns h;rw [zo.out] at h5;unfold RdS;rw [List.length_append, zm.out, List.map_append];exact h5
    exact f.out _ _ _ _ _ T _ (U ++ [d]) _ (s3.gb q (fun e => N.1 (Option.some.inj e).symm)) (p4.set 1 _) (s6.gb q (fun e => N.2.1 (Option.some.inj e).symm)) (s7.gb q (fun e => N.2.2.1 (Option.some.inj e).symm)) (y8.setCell (p := ⟨M, 1, none⟩) t.2.1 _) (.inl rfl)
     (fun wy k V => ⟨(HQ.out wy V).2.1, (HQ.out wy V).2.2, hw.out _ _ (k.1 (Nat.le_refl _) (World.ownsRow.kept A q (.inr (fun e => obN A p4 (by decide) e.symm)))), hy.out _ _ _ V (k.1 (Nat.le_refl _) (World.ownsRow.kept s2 q (.inr (fun e => obN s2 p4 (by decide) e.symm))))⟩) hL.out (fun u X => by
       rcases List.mem_append.1 X with h | h
       ·exact hl.out u h
       ·simp at h; subst h; omega)
  ·as_aux_lemma =>
    have vg := d4.cell 0 rfl;have yw := d4.cell 2 rfl;have Y := h0.alloc (.cells #[.slice pb P.length L] 33);have hp := obN Y (d4.alloc (.cells #[.slice pb P.length L] 33)) (by decide);have ho := obN Y (d3.alloc (.cells #[.slice pb P.length L] 33)) (by decide);have hs := obN Y (d6.alloc (.cells #[.slice pb P.length L] 33)) (by decide);have ht := obN Y (d7.alloc (.cells #[.slice pb P.length L] 33)) (by decide);have hQ := a.size
    go_upto_region 15 with (at_builtin; refine wpList_append_own _ rfl _ _ 43 rfl W.heap.size 33 j0 (.slice none 0 0) 1 24 Tryz.underlying43 xv xD ha xE rfl (by decide) _ _ _ rfl Y ⟨Q.heap.size, 0, none⟩ 1 1 [.slice pb P.length L] rfl rfl (cell_one_new _ _ _) (by intro u X; simp at X; subst X; rfl) (by unfold maxLen; omega) (by omega) (by simp; omega) ?_
                            intro v9 w9 A E _;have p4 := (d4.alloc (.cells #[.slice pb P.length L] 33)).gb E (fun e => hp e.symm);have q1 := p4.cell 2 rfl;have zA := p4.frozen 2;obtain ⟨p9, c9, rfl⟩ := oRs A)
    obtain ⟨y1, ha⟩ : ∃ y, y = w9.setCell ⟨M, 2, none⟩ (.slice p9 (n + 1) c9) := ⟨_, rfl⟩;have q : w9.grownBy y1 (some M) := by rw [ha]; exact gst (grl w9 (some M)) 2 (.slice p9 (n + 1) c9)
    have y8 : Below w.heap.size w w9 := (a.alloc hQ (.cells #[.slice pb P.length L] 33)).grown E (by simp; omega) (fun j hj => by have := (Y.lt j hj).1; omega);have hY : Below w.heap.size w y1 := by rw [ha]; exact y8.setCell (p := ⟨M, 2, none⟩) t.2.1 _
    have t3 := ((d3.alloc (.cells #[.slice pb P.length L] 33)).gb E (fun e => ho e.symm)).gb q (fun e => N.1 (Option.some.inj e).symm);have t6 := ((d6.alloc (.cells #[.slice pb P.length L] 33)).gb E (fun e => hs e.symm)).gb q (fun e => N.2.1 (Option.some.inj e).symm);have t7 := ((d7.alloc (.cells #[.slice pb P.length L] 33)).gb E (fun e => ht e.symm)).gb q (fun e => N.2.2.1 (Option.some.inj e).symm);have t4 : BoxN y1 M 45 [.slice pb P.length L, .slice (some ⟨gU, 0, none⟩) (n + 1) cU, .slice p9 (n + 1) c9] := by rw [ha]; exact p4.set 2 _
    have yD := World.ownsRow.kept (he.alloc (.cells #[.slice pb P.length L] 33)) E (oat (he.alloc (.cells #[.slice pb P.length L] 33)) Y (by decide));have y5 := World.ownsRow.kept yD q (.inr (fun e => obN yD p4 (by decide) e.symm));have xk := World.ownsRow.kept A q (.inr (fun e => obN A p4 (by decide) e.symm));rw [<- ha];clear ha q y8 E ho hp hs ht Y vg yw yD A p4 q1 zA;have hQ := hY.size;have yv := (t4.alloc (.cells #[.string ⟨#[110, 101, 119]⟩] 9)).cell 1 rfl;have xg := t4.cell 1 rfl;have vH : W.heap.size <= y1.heap.size := by have := (y5.lt gU rfl).2; omega
    have Y := y5.alloc (.cells #[.string ⟨#[110, 101, 119]⟩] 9);have hp := obN Y (t4.alloc (.cells #[.string ⟨#[110, 101, 119]⟩] 9)) (by decide);have ho := obN Y (t3.alloc (.cells #[.string ⟨#[110, 101, 119]⟩] 9)) (by decide);have hs := obN Y (t6.alloc (.cells #[.string ⟨#[110, 101, 119]⟩] 9)) (by decide);have ht := obN Y (t7.alloc (.cells #[.string ⟨#[110, 101, 119]⟩] 9)) (by decide)
    go_wp2_with (at_builtin; refine wpList_append_own _ rfl _ _ 42 rfl W.heap.size 9 k0 (.string ⟨#[]⟩) 1 16 Tryz.underlying42 yb yd ye yf rfl (by decide) _ _ _ rfl Y ⟨y1.heap.size, 0, none⟩ 1 1 [.string ⟨#[110, 101, 119]⟩] rfl rfl (cell_one_new _ _ _) (ocs _) (by unfold maxLen; omega) (by omega) (by simp; omega) ?_
                 intro v8 w8 C H _;have p4 := (t4.alloc (.cells #[.string ⟨#[110, 101, 119]⟩] 9)).gb H (fun e => hp e.symm);have q1 := p4.cell 1 rfl;have zA := p4.frozen 1;obtain ⟨p8, c8, rfl⟩ := oRs C)
    go_meet;have q := gst (grl w8 (some M)) 1 (.slice p8 (n + 1 + 1) c8);have y7 : Below w.heap.size w w8 := (hY.alloc hQ (.cells #[.string ⟨#[110, 101, 119]⟩] 9)).grown H (by simp; omega) (fun j hj => by have := (Y.lt j hj).1; omega);have s3 := (t3.alloc (.cells #[.string ⟨#[110, 101, 119]⟩] 9)).gb H (fun e => ho e.symm);have s6 := (t6.alloc (.cells #[.string ⟨#[110, 101, 119]⟩] 9)).gb H (fun e => hs e.symm);have s7 := (t7.alloc (.cells #[.string ⟨#[110, 101, 119]⟩] 9)).gb H (fun e => ht e.symm);have s2 := World.ownsRow.kept (xk.alloc (.cells #[.string ⟨#[110, 101, 119]⟩] 9)) H (oat (xk.alloc (.cells #[.string ⟨#[110, 101, 119]⟩] 9)) Y (by decide));have hw : Hid (∀ (wy : World) (v : Value), wy.ownsRow W.heap.size 9 1 v (n + 1 + 1) (UV ++ [.string ⟨#[110, 101, 119]⟩]) -> RdS wy v (U ++ [⟨#[110, 101, 119]⟩])) := fun wy v h => by
     have h5 := RdC.of_owns h;rw [zo.out] at h5;unfold RdS;rw [List.length_append, zm.out, List.map_append];exact h5
    have x6 : Hid (∀ (wy : World) (v : Value), Below w0.heap.size w0 wy -> wy.ownsRow W.heap.size 33 1 v (n + 1) (us ++ [.slice pb P.length L]) -> RdTx wy v ((S.map fun F => F.map RS) ++ [B.map RS])) := fun wy v V h => by
     refine ⟨us ++ [.slice pb P.length L], by rw [List.length_append, List.length_map, hN.out]; exact RdC.of_owns h, fun i u F X hF => ?_⟩;rcases Nat.lt_or_ge i n with h1 | h1
     ·rw [List.getElem?_append_left (by rw [hV.out]; exact h1)] at X
      rw [List.getElem?_append_left (by rw [List.length_map, hN.out]; exact h1)] at hF;exact yt.out wy V i u F X hF
     ·rw [List.getElem?_append_right (by rw [hV.out]; exact h1), hV.out] at X
      rw [List.getElem?_append_right (by rw [List.length_map, hN.out]; exact h1), List.length_map, hN.out] at hF;cases hx : i - n with
      | zero => rw [hx] at X hF; cases X; cases hF; exact (HQ.out wy V).2.2
      | succ j => rw [hx] at X; simp at X
    exact f.out _ _ _ _ _ T _ (U ++ [⟨#[110, 101, 119]⟩]) _ (s3.gb q (fun e => N.1 (Option.some.inj e).symm)) (p4.set 1 _) (s6.gb q (fun e => N.2.1 (Option.some.inj e).symm)) (s7.gb q (fun e => N.2.2.1 (Option.some.inj e).symm)) (y7.setCell (p := ⟨M, 1, none⟩) t.2.1 _) (.inl rfl)
     (fun wy k V => ⟨(HQ.out wy V).2.1, (HQ.out wy V).2.2, hw.out _ _ (k.1 (Nat.le_refl _) (World.ownsRow.kept C q (.inr (fun e => obN C p4 (by decide) e.symm)))), x6.out _ _ V (k.1 (Nat.le_refl _) (World.ownsRow.kept s2 q (.inr (fun e => obN s2 p4 (by decide) e.symm))))⟩)
     (fun F hF => by
       rcases List.mem_cons.1 hF with rfl | h
       ·exact zX.out
       ·rcases List.mem_append.1 h with h | h
        ·exact zY.out F h
        ·simp at h; subst h; exact zX.out)
     (fun u X => by
       rcases List.mem_append.1 X with h | h
       ·exact hl.out u h
       ·simp at h; subst h; decide)
  ·by_cases hn0 : n = 0
   ·as_aux_lemma =>
     subst hn0;have yw := d4.cell 2 rfl;go_wp2_with fail;go_meet;exact f.out Q _ _ _ _ T _ U _ d3 d4 d6 d7 a (.inl rfl) (fun wy k V => ⟨(HQ.out wy V).2.1, (HQ.out wy V).2.2, zj.out _ _ _ (k.1 (Nat.le_refl _) he), hy.out _ _ _ V (k.1 (Nat.le_refl _) h0)⟩) hL.out hl.out
   ·as_aux_lemma =>
     obtain ⟨i, hi, ya⟩ : ∃ i : Nat, az.tmod (n : Int) = (i : Int) /\ i < n := ⟨(az.tmod (n : Int)).toNat, by have := Int.tmod_nonneg (n : Int) z9.1; omega, by have := Int.tmod_lt_of_pos az (show (0 : Int) < (n : Int) by omega); have := Int.tmod_nonneg (n : Int) z9.1; omega⟩;have vF : IntKind.i64.wrap (i : Int) = (i : Int) := IntWalk.i64_in _ (by omega);have vz : (i : Int) < (n : Int) := by omega
     have vD : ¬ (n : Int) = 0 := by omega
     have xA : ((n : Int) == 0) = false := by rw [beq_eq_false_iff_ne]; omega
     have j1 : (0 : Int) < (n : Int) := by omega
     have yw := d4.cell 2 rfl;obtain ⟨gS, jH, lS, e, vx, bS, vr, xr, vA, xC⟩ := boo h0 (by omega);injection e with e1 e2 e3
     subst e1 e3;clear e2;have xx : i < us.length := by rw [hV.out]; exact ya
     have yR : us[i]? = some us[i] := List.getElem?_eq_getElem xx;have yM : i < S.length := by rw [hN.out]; exact ya
     obtain ⟨R, hR⟩ := zex (S[i]);have zu : R ∈ B :: S := by rw [hR]; exact List.mem_cons_of_mem _ (List.getElem_mem yM)
     have vp : S[i]? = some R := by rw [hR]; exact List.getElem?_eq_getElem yM
     obtain ⟨FT, hn⟩ : ∃ F, F = R.map RS := ⟨_, rfl⟩;have hJ : Hid (FT.length = P.length) := by unfold Hid; rw [hn, List.length_map]; exact HD.out.fl R zu
     have yO := (x8.out i us[i] R yR vp).rd;obtain ⟨bb, ob, vf, eb, hA, h9⟩ := yO.cells (by rw [HD.out.fl R zu]; omega);obtain ⟨_, _, e, zy, -, -⟩ := yO.toS.open;rw [eb] at e;rw [<- hn, hJ.out] at e zy;injection e with e1 e2 e3
     subst e3;clear e1 e2;rw [HD.out.fl R zu] at eb;rw [eb] at yR;have zx : bb < Q.heap.size := Nat.lt_of_lt_of_le hA hX.size;have ys : Hid (∀ (j : Nat) (u : Value), (FT.map fun x => Value.string x)[j]? = some u -> Q.cell? ⟨bb, ob + j, none⟩ = some u) := fun j u X => by
      rw [hn, List.map_map, List.getElem?_map] at X;cases hj : R[j]? with
      | none => rw [hj] at X; cases X
      | some q =>
        rw [hj] at X;cases X;obtain ⟨h1, h2⟩ := List.getElem?_eq_some_iff.1 hj;have h5 := h9 j h1;rw [hh0 R j h1, h2] at h5;exact (zcq hX hA h5 :)
     obtain ⟨L, xu⟩ : ∃ c, c = vf := ⟨_, rfl⟩;subst xu;have hC : ¬ L = 1 := by omega
     have yG : ¬ 1 = L := by omega
     have vl : (1 : Int) <= (P.length : Int) := by omega
     have vo : (P.length : Int) <= (L : Int) := by omega
     have xi : 1 <= P.length := by omega
     have hg : (FT.map fun x => Value.string x).length = P.length := by rw [List.length_map]; exact hJ.out
     have hM : Hid (∀ w', Below Q.heap.size Q w' -> SrcR w' (.slice (some ⟨bb, ob + 1, none⟩) (P.length - 1) (L - 1)) (P.length - 1) 1 (FT.map fun x => Value.string x).tail) := fun w' V => by
      have h5 := spt (w := w') (b := bb) (o := ob) (c := L) (k := 1) (m := P.length - 1) (xs := FT.map fun x => Value.string x) (fun j u X => (zcq V zx (ys.out j u X) :)) (by rw [hg]; omega) (.slice (some ⟨bb, ob + 1, none⟩) (P.length - 1) (L - 1)) (by rw [if_neg hC]) (fun h => absurd h hC);rw [List.take_of_length_le (by rw [List.length_drop, hg]; exact Nat.le_refl _), List.drop_one] at h5;exact h5
     have hf : Hid (∀ u ∈ (FT.map fun x => Value.string x).tail, u.oneCell' = true) := fun u X => by
      obtain ⟨x, -, rfl⟩ := List.mem_map.1 (List.mem_of_mem_tail X);rfl
     have g0 : Below Q.heap.size Q Q.drew := bdN Q 1;have yo : lS[i]? = some (.slice (some ⟨bb, ob, none⟩) P.length L) := by
      have h5 : (lS.take n)[i]? = some (.slice (some ⟨bb, ob, none⟩) P.length L) := by rw [xC]; exact yR
      rw [List.getElem?_take, if_pos ya] at h5;exact h5
     have xG := bS.lt;have HA : Hid (∀ w', Below Q.heap.size Q w' -> w'.cell? ⟨M, 2, none⟩ = some (.slice (some ⟨gS, 0, none⟩) n cS) /\ w'.cell? ⟨g5, 2, none⟩ = some (.string I)) := fun w' V => ⟨(d4.below V l4).cell 2 rfl, (d5.below V l5).cell 2 rfl⟩;have HB : Hid (∀ w', Below Q.heap.size Q w' -> w'.cell? ⟨gS, i, none⟩ = some (.slice (some ⟨bb, ob, none⟩) P.length L)) := fun w' V => (bS.below V xG).cell i yo;have y9 : W.heap.size <= Q.heap.size := yg;have hH : Hid (∀ (wz : World) (p : Option Addr) (m c : Nat), Below Q.heap.size Q wz -> wz.ownsRow Q.heap.size 55 1 (.slice p m c) P.length ([] ++ (FT.map fun x => Value.string x).tail ++ [.string I]) -> wz.cell? ⟨gS, i, none⟩ = some (.slice (some ⟨bb, ob, none⟩) P.length L) /\ wz.frozen? ⟨gS, i, none⟩ = false /\ ((wz.setCell ⟨gS, i, none⟩ (.slice p m c)).cell? ⟨M, 2, none⟩ = some (.slice (some ⟨gS, 0, none⟩) n cS) /\ (wz.setCell ⟨gS, i, none⟩ (.slice p m c)).cell? ⟨g5, 2, none⟩ = some (.string I)) /\ SlipR w0 w W.heap.size g3 M g6 g7 P (.slice pp P.length cp) (wz.setCell ⟨gS, i, none⟩ (.slice p m c))) := fun wz p m c V hr => by
      have zS := bS.below V xG;have z4 := d4.below V l4;have q := gst (grl wz (some gS)) i (.slice p m c);have yF := zbt a V;have rU := WRA he V;have n4 : some gS ≠ some M := fun e => by have := Option.some.inj e; have := hP.2.2.1; omega
      have n3 : some gS ≠ some g3 := fun e => by have := Option.some.inj e; have := hP.2.2.2; omega
      have n6 : some gS ≠ some g6 := fun e => by have := Option.some.inj e; have := hP.1; omega
      have n7 : some gS ≠ some g7 := fun e => by have := Option.some.inj e; have := hP.2.1; omega
      have n5 : some gS ≠ some g5 := fun e => by
       have e' := Option.some.inj e;subst e';have h8 := zS.symm.trans (d5.below V l5);simp at h8
      have xI := z4.gb q n4;have vR := zS.set i (.slice p m c);have hZ : (wz.setCell ⟨gS, i, none⟩ (.slice p m c)).ownsRow W.heap.size 33 1 (.slice (some ⟨gS, 0, none⟩) n cS) n (us.set i (.slice p m c)) := oob vR vx vr xr (by rw [List.length_set]; exact vA) (by rw [List.take_set, xC]; rfl);have xz := World.ownsRow.kept hr q (.inr (fun e => obN hr zS (by decide) e.symm));refine ⟨zS.cell i yo, zS.frozen i, ⟨xI.cell 2 rfl, ((d5.below V l5).gb q n5).cell 2 rfl⟩, ?_⟩;refine f.out _ _ _ _ _ T (B.map RS) U ((S.map fun F => F.map RS).set i (swapT FT I)) ((d3.below V l3).gb q n3) xI ((d6.below V l6).gb q n6) ((d7.below V l7).gb q n7) (yF.setCell (p := ⟨gS, i, none⟩) (by show w.heap.size <= gS; omega) _) (.inl rfl)
       (fun wy k hb' => ⟨(HQ.out wy hb').2.1, (HQ.out wy hb').2.2, zj.out _ _ _ (k.1 (Nat.le_refl _) (World.ownsRow.kept rU q (.inr (fun e => obN rU zS (by decide) e.symm)))), ?_⟩)
       (fun F hF => by
         rcases List.mem_cons.1 hF with rfl | h
         ·exact zX.out
         ·rcases List.mem_or_eq_of_mem_set h with h | rfl
          ·exact zY.out F h
          ·rw [hn]; exact OkF.swap y3 (HD.out.fl R zu) (HD.out.fs R zu) xj) hl.out
      refine ⟨us.set i (.slice p m c), by rw [List.length_set, List.length_map, hN.out]; exact RdC.of_owns (k.1 (Nat.le_refl _) hZ), fun j u F X hF => ?_⟩;rw [List.getElem?_set] at X hF;by_cases hji : i = j
      ·rw [if_pos hji, if_pos xx] at X
       rw [if_pos hji, if_pos (by rw [List.length_map]; exact yM)] at hF;cases X;cases hF;exact rsp (k.1 yg xz) hJ.out (by omega)
      ·rw [if_neg hji] at X hF
       exact yt.out wy hb' j u F X hF
     clear h9 hg;go_upto_region 19 with fail;refine AnyL.region (S := Till 16 (fun w' => w'.cell? ⟨M, 2, none⟩ = some (.slice (some ⟨gS, 0, none⟩) n cS) /\ w'.cell? ⟨g5, 2, none⟩ = some (.string I)) (fun w' => w'.cell? ⟨gS, i, none⟩ = some (.slice (some ⟨bb, ob, none⟩) P.length L))) (by kernel_rfl) ?_;have Z : Till 16 (fun w' => w'.cell? ⟨M, 2, none⟩ = some (.slice (some ⟨gS, 0, none⟩) n cS) /\ w'.cell? ⟨g5, 2, none⟩ = some (.string I)) (fun w' => w'.cell? ⟨gS, i, none⟩ = some (.slice (some ⟨bb, ob, none⟩) P.length L)) (Array.replicate 17 false) _ := ⟨HA.out _ g0, fun _ => HB.out _ g0⟩;refine zlk 0 Z ?_;try simp only [Act.put, List.getElem_toArray, List.getElem_cons_zero, List.setIfInBounds_toArray, List.set_cons_zero, List.set_cons_succ]
     refine zlk 1 Z ?_;try simp only [Act.put, List.getElem_toArray, List.getElem_cons_zero, List.getElem_cons_succ, List.setIfInBounds_toArray, List.set_cons_zero, List.set_cons_succ]
     refine zlk 2 Z ?_;try simp only [Act.put, List.getElem_toArray, List.getElem_cons_zero, List.getElem_cons_succ, List.setIfInBounds_toArray, List.set_cons_zero, List.set_cons_succ]
     refine zlk 4 Z ?_;try simp only [Act.put, List.getElem_toArray, List.getElem_cons_zero, List.getElem_cons_succ, List.setIfInBounds_toArray, List.set_cons_zero, List.set_cons_succ]
     refine zlk 5 Z ?_;try simp only [Act.put, List.getElem_toArray, List.getElem_cons_zero, List.getElem_cons_succ, List.setIfInBounds_toArray, List.set_cons_zero, List.set_cons_succ]
     refine zlk 6 Z ?_;try simp only [Act.put, List.getElem_toArray, List.getElem_cons_zero, List.getElem_cons_succ, List.setIfInBounds_toArray, List.set_cons_zero, List.set_cons_succ]
     refine zlk 7 Z ?_;try simp only [Act.put, List.getElem_toArray, List.getElem_cons_zero, List.getElem_cons_succ, List.setIfInBounds_toArray, List.set_cons_zero, List.set_cons_succ]
     refine AnyL.take2 (i := 8) (oi := _) (v := ?_) rfl (by kernel_rfl) (by kernel_rfl) (by kernel_rfl) (by decide) (ok := _) rfl (by kernel_rfl) (by kernel_rfl) (fun _ _ _ h => h) (Or.inl ⟨by rfl, ?_⟩) ⟨Z.1, fun _ => Z.2 (by rfl)⟩ ?_;rotate_left
     ·intro w yC; (try dsimp only at yC); first | (go_simp; done) | (go_simp; with_reducible rfl)
     try simp only [Act.put, List.getElem_toArray, List.getElem_cons_zero, List.getElem_cons_succ, List.setIfInBounds_toArray, List.set_cons_zero, List.set_cons_succ]
     refine zlk 9 Z ?_;try simp only [Act.put, List.getElem_toArray, List.getElem_cons_zero, List.getElem_cons_succ, List.setIfInBounds_toArray, List.set_cons_zero, List.set_cons_succ]
     refine zlk 11 Z ?_;try simp only [Act.put, List.getElem_toArray, List.getElem_cons_zero, List.getElem_cons_succ, List.setIfInBounds_toArray, List.set_cons_zero, List.set_cons_succ]
     refine zlk 12 Z ?_;try simp only [Act.put, List.getElem_toArray, List.getElem_cons_zero, List.getElem_cons_succ, List.setIfInBounds_toArray, List.set_cons_zero, List.set_cons_succ]
     refine any2 3 13 (fun K hK => ?_) (fun K hK => ?_)
     ·go_simp
      have hG := bAl g0 (.cells #[] 55);have yr := on0 Q.drew Q.heap.size 55 g0.size;refine hK.out _ _ ⟨HA.out _ hG, fun _ => HB.out _ hG⟩ (fun Z => ?_);clear hK K;try simp only [Act.put, List.getElem_toArray, List.getElem_cons_zero, List.getElem_cons_succ, List.setIfInBounds_toArray, List.set_cons_zero, List.set_cons_succ]
      refine any2 10 13 (fun K hK => ?_) (fun K hK => ?_)
      ·refine appQ 90 96 hG yr (hM.out _ hG) hf.out (by omega) ?_
       intro jt zW xY zJ je;refine hK.out _ _ ⟨HA.out _ zJ, fun _ => HB.out _ zJ⟩ (fun Z => ?_);clear hK K;try simp only [Act.put, List.getElem_toArray, List.getElem_cons_zero, List.getElem_cons_succ, List.setIfInBounds_toArray, List.set_cons_zero, List.set_cons_succ]
       refine any1 13 (fun K hK => ?_);go_simp;have zK := bAl zJ (.cells #[.string I] 55);have xZ := xY.alloc (.cells #[.string I] 55);have xM : BoxN (zW.alloc (.cells #[.string I] 55)) (zW.heap.size) 55 [.string I] := BoxN.new _ _ _ _ (by simp);refine hK.out _ _ ⟨HA.out _ zK, fun _ => HB.out _ zK⟩ (fun Z => ?_);clear hK K;try simp only [Act.put, List.getElem_toArray, List.getElem_cons_zero, List.getElem_cons_succ, List.setIfInBounds_toArray, List.set_cons_zero, List.set_cons_succ]
       refine any1 14 (fun K hK => ?_);refine appQ 97 100 zK xZ (.inr ⟨⟨zW.heap.size, 0, none⟩, 1, rfl, rfl, fun j u X => by rw [aps, Nat.zero_add]; exact xM.cell j X⟩ : SrcR _ _ 1 1 [.string I]) (by intro u X; simp at X; subst X; rfl) (by omega) ?_;intro ju jB zT zL jf;rw [show 0 + (P.length - 1) + 1 = P.length by omega] at zT;obtain ⟨jo, jj, rfl⟩ := oRs zT;refine hK.out _ _ ⟨HA.out _ zL, fun _ => HB.out _ zL⟩ (fun Z => ?_);clear hK K;try simp only [Act.put, List.getElem_toArray, List.getElem_cons_zero, List.getElem_cons_succ, List.setIfInBounds_toArray, List.set_cons_zero, List.set_cons_succ]
       refine zlk 15 Z ?_;try simp only [Act.put, List.getElem_toArray, List.getElem_cons_zero, List.getElem_cons_succ, List.setIfInBounds_toArray, List.set_cons_zero, List.set_cons_succ]
       refine any1 16 (fun K hK => ?_)
       ·obtain ⟨zq, zf, za, zE⟩ := hH.out _ _ _ _ zL zT
        go_simp;refine hK.out _ _ ⟨za, fun hk => (by simp at hk)⟩ (fun Z => ?_);clear hK K;try simp only [Act.put, List.getElem_toArray, List.getElem_cons_zero, List.getElem_cons_succ, List.setIfInBounds_toArray, List.set_cons_zero, List.set_cons_succ]
        refine AnyL.done (by kernel_rfl) ?_ _;go_wp2_with fail;go_meet;exact zE
      ·go_simp
       have z2 := bAl hG (.cells #[.string I] 55);have v0 := yr.alloc (.cells #[.string I] 55);have xN : BoxN ((Q.drew.alloc (.cells #[] 55)).alloc (.cells #[.string I] 55)) (Q.heap.size + 1) 55 [.string I] := BoxN.new _ _ _ _ (by simp);refine hK.out _ _ ⟨HA.out _ z2, fun _ => HB.out _ z2⟩ (fun Z => ?_);clear hK K;try simp only [Act.put, List.getElem_toArray, List.getElem_cons_zero, List.getElem_cons_succ, List.setIfInBounds_toArray, List.set_cons_zero, List.set_cons_succ]
       refine any1 10 (fun K hK => ?_);refine appQ 90 96 z2 v0 (hM.out _ z2) hf.out (by omega) ?_;intro jv jC v1 zM xT;have xO := xN.gb xT (by simp [Value.ownBlock] <;> omega);refine hK.out _ _ ⟨HA.out _ zM, fun _ => HB.out _ zM⟩ (fun Z => ?_);clear hK K;try simp only [Act.put, List.getElem_toArray, List.getElem_cons_zero, List.getElem_cons_succ, List.setIfInBounds_toArray, List.set_cons_zero, List.set_cons_succ]
       refine any1 14 (fun K hK => ?_);refine appQ 97 100 zM v1 (.inr ⟨⟨Q.heap.size + 1, 0, none⟩, 1, rfl, rfl, fun j u X => by rw [aps, Nat.zero_add]; exact xO.cell j X⟩ : SrcR _ _ 1 1 [.string I]) (by intro u X; simp at X; subst X; rfl) (by omega) ?_;intro jw jD zU zN jg;rw [show 0 + (P.length - 1) + 1 = P.length by omega] at zU;obtain ⟨jp, jk, rfl⟩ := oRs zU;refine hK.out _ _ ⟨HA.out _ zN, fun _ => HB.out _ zN⟩ (fun Z => ?_);clear hK K;try simp only [Act.put, List.getElem_toArray, List.getElem_cons_zero, List.getElem_cons_succ, List.setIfInBounds_toArray, List.set_cons_zero, List.set_cons_succ]
       refine zlk 15 Z ?_;try simp only [Act.put, List.getElem_toArray, List.getElem_cons_zero, List.getElem_cons_succ, List.setIfInBounds_toArray, List.set_cons_zero, List.set_cons_succ]
       refine any1 16 (fun K hK => ?_)
       ·obtain ⟨zq, zf, za, zE⟩ := hH.out _ _ _ _ zN zU
        go_simp;refine hK.out _ _ ⟨za, fun hk => (by simp at hk)⟩ (fun Z => ?_);clear hK K;try simp only [Act.put, List.getElem_toArray, List.getElem_cons_zero, List.getElem_cons_succ, List.setIfInBounds_toArray, List.set_cons_zero, List.set_cons_succ]
        refine AnyL.done (by kernel_rfl) ?_ _;go_wp2_with fail;go_meet;exact zE
     ·go_simp
      have z3 := bAl g0 (.cells #[.string I] 55);have xP : BoxN (Q.drew.alloc (.cells #[.string I] 55)) (Q.heap.size) 55 [.string I] := BoxN.new _ _ _ _ (by simp);refine hK.out _ _ ⟨HA.out _ z3, fun _ => HB.out _ z3⟩ (fun Z => ?_);clear hK K;try simp only [Act.put, List.getElem_toArray, List.getElem_cons_zero, List.getElem_cons_succ, List.setIfInBounds_toArray, List.set_cons_zero, List.set_cons_succ]
      refine any1 3 (fun K hK => ?_);go_simp;have z5 := bAl z3 (.cells #[] 55);have xQ := xP.alloc (.cells #[] 55);have v2 := on0 (Q.drew.alloc (.cells #[.string I] 55)) Q.heap.size 55 z3.size;refine hK.out _ _ ⟨HA.out _ z5, fun _ => HB.out _ z5⟩ (fun Z => ?_);clear hK K;try simp only [Act.put, List.getElem_toArray, List.getElem_cons_zero, List.getElem_cons_succ, List.setIfInBounds_toArray, List.set_cons_zero, List.set_cons_succ]
      refine any1 10 (fun K hK => ?_);refine appQ 90 96 z5 v2 (hM.out _ z5) hf.out (by omega) ?_;intro jx jE v4 zO xU;have xR := xQ.gb xU (by simp [Value.ownBlock] <;> omega);refine hK.out _ _ ⟨HA.out _ zO, fun _ => HB.out _ zO⟩ (fun Z => ?_);clear hK K;try simp only [Act.put, List.getElem_toArray, List.getElem_cons_zero, List.getElem_cons_succ, List.setIfInBounds_toArray, List.set_cons_zero, List.set_cons_succ]
      refine any1 14 (fun K hK => ?_);refine appQ 97 100 zO v4 (.inr ⟨⟨Q.heap.size, 0, none⟩, 1, rfl, rfl, fun j u X => by rw [aps, Nat.zero_add]; exact xR.cell j X⟩ : SrcR _ _ 1 1 [.string I]) (by intro u X; simp at X; subst X; rfl) (by omega) ?_;intro jy jF zV zP jh;rw [show 0 + (P.length - 1) + 1 = P.length by omega] at zV;obtain ⟨jq, jm, rfl⟩ := oRs zV;refine hK.out _ _ ⟨HA.out _ zP, fun _ => HB.out _ zP⟩ (fun Z => ?_);clear hK K;try simp only [Act.put, List.getElem_toArray, List.getElem_cons_zero, List.getElem_cons_succ, List.setIfInBounds_toArray, List.set_cons_zero, List.set_cons_succ]
      refine zlk 15 Z ?_;try simp only [Act.put, List.getElem_toArray, List.getElem_cons_zero, List.getElem_cons_succ, List.setIfInBounds_toArray, List.set_cons_zero, List.set_cons_succ]
      refine any1 16 (fun K hK => ?_)
      ·obtain ⟨zq, zf, za, zE⟩ := hH.out _ _ _ _ zP zV
       go_simp;refine hK.out _ _ ⟨za, fun hk => (by simp at hk)⟩ (fun Z => ?_);clear hK K;try simp only [Act.put, List.getElem_toArray, List.getElem_cons_zero, List.getElem_cons_succ, List.setIfInBounds_toArray, List.set_cons_zero, List.set_cons_succ]
       refine AnyL.done (by kernel_rfl) ?_ _;go_wp2_with fail;go_meet;exact zE
  ·as_aux_lemma =>
    have yv := d4.cell 1 rfl;have xh := d4.frozen 1;have q := gst (grl Q (some M)) 1 (.slice none 0 0);go_wp2_with fail;go_meet;exact f.out _ _ _ _ _ T _ [] _ (d3.gb q (fun e => N.1 (Option.some.inj e).symm)) (d4.set 1 _) (d6.gb q (fun e => N.2.1 (Option.some.inj e).symm)) (d7.gb q (fun e => N.2.2.1 (Option.some.inj e).symm)) (a.setCell (p := ⟨M, 1, none⟩) t.2.1 _) (.inl rfl) (fun wy k V => ⟨(HQ.out wy V).2.1, (HQ.out wy V).2.2, RdC.nil0 _ _, hy.out _ _ _ V (k.1 (Nat.le_refl _) (World.ownsRow.kept h0 q (.inr (fun e => obN h0 d4 (by decide) e.symm))))⟩) hL.out (fun u X => by simp at X)
  ·as_aux_lemma =>
    obtain ⟨r4, jW, jV⟩ : ∃ r : Nat, az.tmod 4 = (r : Int) /\ r <= 3 := ⟨(az.tmod 4).toNat, by have := Int.tmod_nonneg 4 z9.1; omega, by have := Int.tmod_lt_of_pos az (show (0 : Int) < 4 by decide); have := Int.tmod_nonneg 4 z9.1; omega⟩;have jZ : IntKind.i64.wrap (59 + (r4 : Int)) = 59 + (r4 : Int) := IntWalk.i64_in _ (by omega);have y5 : Q.ownsRow W.heap.size 9 1 (.slice (some ⟨gU, 0, none⟩) (n + 1) cU) (n + 1) (U.map fun x => Value.string x) := by rw [<- zo.out]; exact he
    have v5 := hid a;clear he a bU yN yP;go_wp2_with fail;go_loopw [] (fun wr => ∃ (m : Nat) (p c : _) (U' : List ByteArray), U'.length = m /\ n + 1 <= m /\ m <= 62 /\ BoxN wr M 45 [.slice pb P.length L, .slice p m c, .slice pS n cS] /\ wr.ownsRow W.heap.size 9 1 (.slice p m c) m (U'.map fun x => Value.string x) /\ Hid (∀ u ∈ U', u.size < 1000000000) /\ wr.ownsRow W.heap.size 33 1 (.slice pS n cS) n us /\ BoxN wr g3 41 [.slice pp P.length cp, .slice pt T.length ct] /\ BoxN wr g6 41 [.slice none 0 0, .slice none 0 0] /\ BoxN wr g7 45 [.slice none 0 0, .slice none 0 0, .slice none 0 0] /\ Below w.heap.size w wr) (fun wr => 63 - lenC (wr.cell? ⟨M, 1, none⟩))
    case atStart => exact ⟨n + 1, _, _, U, zm.out, Nat.le_refl _, by omega, d4, y5, hl, h0, d3, d6, d7, v5.out⟩
    case round =>
     obtain ⟨m, p, c, U', hm, jQ, jR, e4, hU, xd, hS, e3, e6, e7, V⟩ := hrel;obtain ⟨wq, vG⟩ : ∃ x : World, x = wr := ⟨_, rfl⟩;subst vG;have x0 := e4.cell 1 rfl;have vQ := e4.frozen 1;rcases Nat.lt_or_ge m (59 + r4) with jP | jO
     ·obtain ⟨q1, z⟩ : ∃ q : Nat, q = m / 10 := ⟨_, rfl⟩
      obtain ⟨q2, xB⟩ : ∃ q : Nat, q = m % 10 := ⟨_, rfl⟩;have j2 : (m : Int).tdiv 10 = (q1 : Int) := by rw [z, Int.tdiv_eq_ediv_of_nonneg (by omega)]; omega
      have j4 : (m : Int).tmod 10 = (q2 : Int) := by rw [xB, Int.tmod_eq_emod_of_nonneg (by omega)]; omega
      have j3 : q1 <= 6 := by omega
      have j5 : q2 <= 9 := by omega
      have j7 : IntKind.i64.wrap (q1 : Int) = (q1 : Int) := IntWalk.i64_in _ (by omega);have j8 : IntKind.i64.wrap (q2 : Int) = (q2 : Int) := IntWalk.i64_in _ (by omega);have j9 : IntKind.u8.wrap (q1 : Int) = (q1 : Int) := IntWalk.u8_in _ (by omega);have ja : IntKind.u8.wrap (q2 : Int) = (q2 : Int) := IntWalk.u8_in _ (by omega);have jb : IntKind.u8.wrap (48 + (q1 : Int)) = 48 + (q1 : Int) := IntWalk.u8_in _ (by omega);have jc : IntKind.u8.wrap (48 + (q2 : Int)) = 48 + (q2 : Int) := IntWalk.u8_in _ (by omega);have vC : (m : Int) < 59 + (r4 : Int) := by omega
      obtain ⟨zp, yl⟩ : ∃ bv : UInt8, bv = (48 + q1).toUInt8 := ⟨_, rfl⟩;obtain ⟨zr, ym⟩ : ∃ bv : UInt8, bv = (48 + q2).toUInt8 := ⟨_, rfl⟩;have yj : (zp.toNat : Int) = 48 + (q1 : Int) := by
       rw [yl];have : (48 + q1).toUInt8.toNat = 48 + q1 := by
        simp [Nat.toUInt8];omega
       rw [this]; omega
      have yk : (zr.toNat : Int) = 48 + (q2 : Int) := by
       rw [ym];have : (48 + q2).toUInt8.toNat = 48 + q2 := by
        simp [Nat.toUInt8];omega
       rw [this]; omega
      have vw : (convert 90 9 (.slice (some ⟨wq.heap.size, 0, none⟩) 3 3)).run Tryz.prog (wq.alloc (.cells #[.int .u8 118, .int .u8 (48 + (q1 : Int)), .int .u8 (48 + (q2 : Int))] 5)) = .ok (.string ⟨#[118, zp, zr]⟩) (wq.alloc (.cells #[.int .u8 118, .int .u8 (48 + (q1 : Int)), .int .u8 (48 + (q2 : Int))] 5)) := by
       have h1 := run_convert_bytes_back (P := Tryz.prog) (wq.alloc (.cells #[.int .u8 118, .int .u8 (48 + (q1 : Int)), .int .u8 (48 + (q2 : Int))] 5)) 90 9 5 ⟨wq.heap.size, 0, none⟩ 3 [118, zp, zr] Tryz.underlying90 Tryz.underlying5 Tryz.underlying9 (fun j hj => by
        have V := BoxN.new wq #[.int .u8 118, .int .u8 (48 + (q1 : Int)), .int .u8 (48 + (q2 : Int))] 5 _ rfl
        match j, hj with
        | 0, _ => exact V.cell 0 rfl
        | 1, _ =>
          show _ = some (Value.int .u8 (zp.toNat : Int));rw [yj];exact V.cell 1 rfl
        | 2, _ =>
          show _ = some (Value.int .u8 (zr.toNat : Int));rw [yk];exact V.cell 2 rfl)
       exact h1
      obtain ⟨hd, zz⟩ : ∃ s : ByteArray, s = ⟨#[118, zp, zr]⟩ := ⟨_, rfl⟩;have x7 : Hid (hd.size < 1000000000) := by unfold Hid; rw [zz]; show 3 < 1000000000; decide
      rw [<- zz] at vw;clear zz yl ym yj yk z xB;have hQ := V.size;obtain ⟨O1, vn⟩ : ∃ O : Obj, O = .cells #[.int .u8 118, .int .u8 (48 + (q1 : Int)), .int .u8 (48 + (q2 : Int))] 5 := ⟨_, rfl⟩;have Y := (hU.alloc O1).alloc (.cells #[.string hd] 9);have yx := (e4.alloc O1).alloc (.cells #[.string hd] 9);have yu := (e3.alloc O1).alloc (.cells #[.string hd] 9);have yy := (e6.alloc O1).alloc (.cells #[.string hd] 9);have yz := (e7.alloc O1).alloc (.cells #[.string hd] 9);have yB := (hS.alloc O1).alloc (.cells #[.string hd] 9);have hA := (V.alloc hQ O1).alloc (by simp; omega) (.cells #[.string hd] 9);have hp := obN Y yx (by decide);have ho := obN Y yu (by decide);have hs := obN Y yy (by decide);have ht := obN Y yz (by decide);have xf := oat yB Y (by decide);have vH : W.heap.size <= wq.heap.size := by
       obtain ⟨g, c', -, h1, h2, -, -⟩ := obk hU (by omega);omega
      subst vn
      go_wp2_with (at_builtin; refine wpList_append_own _ rfl _ _ 42 rfl W.heap.size 9 k0 (.string ⟨#[]⟩) 1 16 Tryz.underlying42 yb yd ye yf rfl (by decide) _ _ _ rfl Y ⟨wq.heap.size + 1, 0, none⟩ 1 1 [.string hd] rfl rfl (by intro j u X; have := cell_one_new (wq.alloc (.cells #[.int .u8 118, .int .u8 (48 + (q1 : Int)), .int .u8 (48 + (q2 : Int))] 5)) (.string hd) 9 j u X; simpa using this) (ocs _) (by unfold maxLen; omega) (by omega) (by simp; omega) ?_
                   intro v8 w8 C H _;have p4 := yx.gb H (fun e => hp e.symm);have vO := p4.cell 1 rfl;have zA := p4.frozen 1;obtain ⟨p8, c8, rfl⟩ := oRs C)
      obtain ⟨y1, ha⟩ : ∃ y, y = w8.setCell ⟨M, 1, none⟩ (.slice p8 (m + 1) c8) := ⟨_, rfl⟩;have q : w8.grownBy y1 (some M) := by rw [ha]; exact gst (grl w8 (some M)) 1 (.slice p8 (m + 1) c8)
      have y7 : Below w.heap.size w w8 := hA.grown H (by simp; omega) (fun j hj => by have := (Y.lt j hj).1; omega);have hY : Below w.heap.size w y1 := by rw [ha]; exact y7.setCell (p := ⟨M, 1, none⟩) t.2.1 _
      have t4 : BoxN y1 M 45 [.slice pb P.length L, .slice p8 (m + 1) c8, .slice pS n cS] := by rw [ha]; exact p4.set 1 _
      have s3 := (yu.gb H (fun e => ho e.symm)).gb q (fun e => N.1 (Option.some.inj e).symm);have s6 := (yy.gb H (fun e => hs e.symm)).gb q (fun e => N.2.1 (Option.some.inj e).symm);have s7 := (yz.gb H (fun e => ht e.symm)).gb q (fun e => N.2.2.1 (Option.some.inj e).symm);have yT := World.ownsRow.kept yB H xf;have sS := World.ownsRow.kept yT q (.inr (fun e => obN yT p4 (by decide) e.symm));have sU := World.ownsRow.kept C q (.inr (fun e => obN C p4 (by decide) e.symm));have vB : (U' ++ [hd]).length = m + 1 := by rw [List.length_append, hm]; rfl
      have vP : y1.ownsRow W.heap.size 9 1 (.slice p8 (m + 1) c8) (m + 1) ((U' ++ [hd]).map fun x => Value.string x) := by rw [List.map_append]; exact sU
      have xe : Hid (∀ u ∈ U' ++ [hd], u.size < 1000000000) := fun u X => by
       rcases List.mem_append.1 X with h | h
       ·exact xd.out u h
       ·simp at h; subst h; exact x7.out
      have va : Hid (63 - lenC (y1.cell? ⟨M, 1, none⟩) < 63 - lenC (wq.cell? ⟨M, 1, none⟩)) := by
       have e1 := t4.cell 1 rfl;unfold Hid;rw [e1, x0];show 63 - (m + 1) < 63 - m;omega
      rw [<- ha];clear ha q y7 Y yx yu yy yz yB hA hp ho hs ht xf C H p4 vO zA yT sU x0 vQ;go_wp2_with fail;go_roundw
      case rel => exact ⟨m + 1, _, _, U' ++ [hd], vB, by omega, by omega, t4, vP, xe, sS, s3, s6, s7, hY⟩
      case measure => exact va.out
     ·have vC : ¬ (m : Int) < 59 + (r4 : Int) := by omega
      go_wp2_with fail;go_meet;exact f.out wq _ _ _ _ T _ U' _ e3 e4 e6 e7 V (.inl rfl) (fun wy k V => ⟨(HQ.out wy V).2.1, (HQ.out wy V).2.2, (by have h5 := RdC.of_owns (k.1 (Nat.le_refl _) hU); unfold RdS; rw [hm]; exact h5), hy.out _ _ _ V (k.1 (Nat.le_refl _) hS)⟩) hL.out xd.out
 case rest =>
 obtain ⟨zD, zB, zF, zC, T', b', U', S', e3, e4, e6, e7, yA, xn, vm⟩ := hcut;obtain ⟨oC, vE⟩ : ∃ x : World, x = wc := ⟨_, rfl⟩;subst vE;have zt := yA oC (Kq.refl _ _ _);obtain ⟨zh, z7, rfl, -, -, -⟩ := zt.t.open;obtain ⟨ze, hO, rfl, -, -, -⟩ := zt.base.open;obtain ⟨zi, z8, rfl, -, -, -⟩ := zt.unit.open;obtain ⟨zg, z6, rfl, -, -⟩ := zt.surf.shape;have v6 := hid yA;have xb := hid xn;clear zt yA xn;obtain ⟨x0, x1⟩ := zk2 e3;obtain ⟨y0, y1, y2⟩ := zk3 e4;have jI := e6.frozen 0;have jJ := e6.frozen 1;have jK := e7.frozen 0;have jL := e7.frozen 1;have jM := e7.frozen 2;obtain ⟨k1, k2⟩ := zk2 e6;obtain ⟨k3, k4, k5⟩ := zk3 e7;have vj := (e6.set 0 (.slice pp P.length cp)).set 1 (.slice zh T'.length z7);have zs := e7.gb (gst (gst (grl oC (some g6)) 0 (.slice pp P.length cp)) 1 (.slice zh T'.length z7)) (fun e => xH (Option.some.inj e).symm);have k6 := zs.frozen 0;have k7 := zs.frozen 1;have k8 := zs.frozen 2;obtain ⟨kb, kc, ke⟩ := zk3 zs;have s7 := ((zs.set 0 (.slice ze b'.length hO)).set 1 (.slice zi U'.length z8)).set 2 (.slice zg S'.length z6);have s6 := vj.gb (gst (gst (gst (grl _ (some g7)) 0 (.slice ze b'.length hO)) 1 (.slice zi U'.length z8)) 2 (.slice zg S'.length z6)) (fun e => xH (Option.some.inj e));have v7 : Kq w0.heap.size W.heap.size oC ((((((oC.setCell ⟨g6, 0, none⟩ (.slice pp P.length cp)).setCell ⟨g6, 1, none⟩ (.slice zh T'.length z7)).setCell ⟨g7, 0, none⟩ (.slice ze b'.length hO)).setCell ⟨g7, 1, none⟩ (.slice zi U'.length z8)).setCell ⟨g7, 2, none⟩ (.slice zg S'.length z6)).drew) :=
  (Kq.gb (gst (gst (grl oC (some g6)) 0 (.slice pp P.length cp)) 1 (.slice zh T'.length z7)) (Nat.le_trans zd.size t.2.2.1) hP.1).trans (Kq.gb (gdw (gst (gst (gst (grl _ (some g7)) 0 (.slice ze b'.length hO)) 1 (.slice zi U'.length z8)) 2 (.slice zg S'.length z6))) (Nat.le_trans zd.size t.2.2.2) hP.2.1)
 have vc : Below w.heap.size w ((((((oC.setCell ⟨g6, 0, none⟩ (.slice pp P.length cp)).setCell ⟨g6, 1, none⟩ (.slice zh T'.length z7)).setCell ⟨g7, 0, none⟩ (.slice ze b'.length hO)).setCell ⟨g7, 1, none⟩ (.slice zi U'.length z8)).setCell ⟨g7, 2, none⟩ (.slice zg S'.length z6)).drew) := (((((vm.setCell (p := ⟨g6, 0, none⟩) t.2.2.1 _).setCell (p := ⟨g6, 1, none⟩) t.2.2.1 _).setCell (p := ⟨g7, 0, none⟩) t.2.2.2 _).setCell (p := ⟨g7, 1, none⟩) t.2.2.2 _).setCell (p := ⟨g7, 2, none⟩) t.2.2.2 _).drew;obtain ⟨vJ, vK⟩ := zk2 s6;obtain ⟨vL, vM, vN⟩ := zk3 s7;go_upto_region 25 with fail;go_region;all_goals
  go_wp2_with fail;exact bodyPost_ret (v := .tuple #[.agg #[.slice pp P.length cp, .slice zh T'.length z7], .agg #[.slice ze b'.length hO, .slice zi U'.length z8, .slice zg S'.length z6]]) (by simp [results, Tryz.results27, go_sem, vJ, vK, vL, vM, vN]) rfl ⟨_, rfl, ⟨_, _, _, _, _, _, _, _, rfl, fun wy k => v6.out wy (v7.trans (k.mono yE)), xb.out⟩, vc⟩
theorem OwnD.kept {w w' : World} {base g : Nat} {v1 v2 v3 : Value} {B : List Rat} {U : List ByteArray} {S : List (List Rat)} (h : OwnD w base v1 v2 v3 B U S) (Y : w.grownBy w' (some g)) (X : g < base) : OwnD w' base v1 v2 v3 B U S := by
 have Z : ∀ (x : Value) (e s n : Nat) (xs : List Value), w.ownsRow base e s x n xs -> x.ownBlock = none \/ x.ownBlock ≠ some g := fun x e s n xs hx => .inr fun e' => by have := (hx.lt g e').1; omega
 exact ⟨World.ownsRow.kept h.1 Y (Z _ _ _ _ _ h.1), World.ownsRow.kept h.2.1 Y (Z _ _ _ _ _ h.2.1), h.2.2.kept Y (fun x e s n xs _ hx => Z x e s n xs hx)⟩
theorem OwnD.unit {w : World} {base : Nat} {v1 v2 v3 : Value} {B : List Rat} {U : List ByteArray} {S : List (List Rat)} (h : OwnD w base v1 v2 v3 B U S) : RdS w v2 U := RdC.of_owns h.2.1
theorem aeT (w : World) (Y V Z R X : Value) (P : List PtQ) (T : List Tri) (k : Nat) (b U : List ByteArray) (S : List (List ByteArray)) (h : DepT w Y V Z R X P T k b U S) (x y z : ByteArray) (O : depE P T b U S ≠ 0) (I : Good w) :
 Calls Tryz.prog 30 #[.agg #[Y, V], .agg #[Z, R, X], .agg #[.string x, .string y, .string z]] w (Ret (fun r _ => r = .tuple #[.string ⟨#[]⟩, .bool false, .int .i64 (depE P T b U S)]) w) := by
 have Q : Hid (∀ w', Below w.heap.size w w' -> Good w' -> Calls Tryz.prog 64 #[.agg #[Y, V], .agg #[Z, R, X], .agg #[.string x, .string y, .string z]] w' (Ret (fun r _ => r = .int .i64 (depE P T b U S)) w')) := fun w' hb hg' => cPe w' _ _ _ _ _ P T k b U S (h.below hb) x y z O hg';obtain ⟨B, G, N, -, -, -⟩ := h.p.open;obtain ⟨v, E, M, -, -, -⟩ := h.t.open;obtain ⟨C, H, L, -, -, -⟩ := h.base.open;obtain ⟨t, D, K, -, -, -⟩ := h.unit.open;obtain ⟨A, cs, J, -, -⟩ := h.surf.shape;exact aer w Y V Z R X _ _ _ _ _ _ _ _ _ _ _ _ _ _ _ N M L K J x y z _ O Q I
theorem leT (w : World) (Y V Z R X : Value) (P : List PtQ) (T : List Tri) (k : Nat) (b U : List ByteArray) (S : List (List ByteArray)) (h : DepT w Y V Z R X P T k b U S) (x y z : ByteArray) (O : depE P T b U S ≠ 0) (I : Good w) :
 Calls Tryz.prog 31 #[.agg #[Y, V], .agg #[Z, R, X], .agg #[.string x, .string y, .string z]] w (Ret (fun r _ => r = .tuple #[.slice none 0 0, .int .i64 (depE P T b U S)]) w) := by
 have Q : Hid (∀ w', Below w.heap.size w w' -> Good w' -> Calls Tryz.prog 64 #[.agg #[Y, V], .agg #[Z, R, X], .agg #[.string x, .string y, .string z]] w' (Ret (fun r _ => r = .int .i64 (depE P T b U S)) w')) := fun w' hb hg' => cPe w' _ _ _ _ _ P T k b U S (h.below hb) x y z O hg';obtain ⟨B, G, N, -, -, -⟩ := h.p.open;obtain ⟨v, E, M, -, -, -⟩ := h.t.open;obtain ⟨C, H, L, -, -, -⟩ := h.base.open;obtain ⟨t, D, K, -, -, -⟩ := h.unit.open;obtain ⟨A, cs, J, -, -⟩ := h.surf.shape;exact ler w Y V Z R X _ _ _ _ _ _ _ _ _ _ _ _ _ _ _ N M L K J x y z _ O Q I
theorem sj0 (w : World) (Q N R M O : Value) (P : List PtQ) (T : List Tri) (k : Nat) (b U : List ByteArray) (S : List (List ByteArray)) (h : DepT w Q N R M O P T k b U S) (D : Int) (V : depE P T b U S ≠ 0) (E : Good w) :
 Calls Tryz.prog 18 #[.agg #[Q, N], .agg #[R, M, O], .int .i64 D] w (Ret (fun r _ => r = .tuple #[.slice none 0 0, .int .i64 (depE P T b U S)]) w) := by
 have L : Hid (∀ w', Below w.heap.size w w' -> Good w' -> _) := fun w' hb hg' => sa0 w' _ _ _ _ _ P T k b U S (h.below hb) hg';have K : (depE P T b U S != 0) = true := by rw [bne_iff_ne]; exact V
 generalize depE P T b U S = ez at *;obtain ⟨B, I, rfl, -, -, -⟩ := h.p.open;obtain ⟨z, H, rfl, -, -, -⟩ := h.t.open;obtain ⟨C, J, rfl, -, -, -⟩ := h.base.open;obtain ⟨y, G, rfl, -, -, -⟩ := h.unit.open;obtain ⟨A, cs, rfl, -, -⟩ := h.surf.shape;clear h V;go_enter Tryz.func18, Tryz.ntmps18;go_wp2_with fail;obtain ⟨W, X⟩ := zex ((w.alloc (.cells #[.slice B (strP P).length I, .slice z T.length H] 41)).alloc (.cells #[.slice C b.length J, .slice y U.length G, .slice A S.length cs] 45));have Z : Below w.heap.size w W := by rw [X]; exact zal2 _ _ _
 rw [<- X];clear X;refine zR (L.out W Z (E.below Z)) fun w1 hb1 => ?_;have Y := zbt Z hb1;go_wp2_with fail;go_ret2;exact ⟨_, rfl, rfl, Y⟩
theorem ser (w : World) (Q N R M O : Value) (P : List PtQ) (T : List Tri) (k : Nat) (b U : List ByteArray) (S : List (List ByteArray)) (h : DepT w Q N R M O P T k b U S) (u : ByteArray) (V : depE P T b U S ≠ 0) (E : Good w) :
 Calls Tryz.prog 58 #[.agg #[Q, N], .agg #[R, M, O], .string u] w (Ret (fun r _ => r = .tuple #[.int .i64 0, .int .i64 (depE P T b U S)]) w) := by
 have L : Hid (∀ w', Below w.heap.size w w' -> Good w' -> _) := fun w' hb hg' => sa0 w' _ _ _ _ _ P T k b U S (h.below hb) hg';have K : (depE P T b U S != 0) = true := by rw [bne_iff_ne]; exact V
 generalize depE P T b U S = ez at *;obtain ⟨C, I, rfl, -, -, -⟩ := h.p.open;obtain ⟨A, H, rfl, -, -, -⟩ := h.t.open;obtain ⟨D, J, rfl, -, -, -⟩ := h.base.open;obtain ⟨z, G, rfl, -, -, -⟩ := h.unit.open;obtain ⟨B, cs, rfl, -, -⟩ := h.surf.shape;clear h V;go_enter Tryz.func58, Tryz.ntmps58;go_wp2_with fail;obtain ⟨W, X⟩ := zex ((w.alloc (.cells #[.slice C (strP P).length I, .slice A T.length H] 41)).alloc (.cells #[.slice D b.length J, .slice z U.length G, .slice B S.length cs] 45));have Z : Below w.heap.size w W := by rw [X]; exact zal2 _ _ _
 rw [<- X];clear X;refine zR (L.out W Z (E.below Z)) fun w1 hb1 => ?_;have Y := zbt Z hb1;go_wp2_with fail;go_ret2;exact ⟨_, rfl, rfl, Y⟩
theorem sn0 (w : World) (Q N R M O : Value) (P : List PtQ) (T : List Tri) (k : Nat) (b U : List ByteArray) (S : List (List ByteArray)) (h : DepT w Q N R M O P T k b U S) (u : ByteArray) (X : depE P T b U S ≠ 0) (E : Good w) :
 Calls Tryz.prog 20 #[.agg #[Q, N], .agg #[R, M, O], .string u] w (Ret (fun r _ => r = .tuple #[.slice none 0 0, .int .i64 (depE P T b U S)]) w) := by
 have L : Hid (∀ w', Below w.heap.size w w' -> Good w' -> _) := fun w' hb hg' => ser w' _ _ _ _ _ P T k b U S (h.below hb) u X hg';have K : (depE P T b U S != 0) = true := by rw [bne_iff_ne]; exact X
 generalize depE P T b U S = ez at *;obtain ⟨C, I, rfl, -, -, -⟩ := h.p.open;obtain ⟨A, H, rfl, -, -, -⟩ := h.t.open;obtain ⟨D, J, rfl, -, -, -⟩ := h.base.open;obtain ⟨z, G, rfl, -, -, -⟩ := h.unit.open;obtain ⟨B, cs, rfl, -, -⟩ := h.surf.shape;clear h X;go_enter Tryz.func20, Tryz.ntmps20;go_wp2_with fail;obtain ⟨W, V⟩ := zex ((w.alloc (.cells #[.slice C (strP P).length I, .slice A T.length H] 41)).alloc (.cells #[.slice D b.length J, .slice z U.length G, .slice B S.length cs] 45));have Z : Below w.heap.size w W := by rw [V]; exact zal2 _ _ _
 rw [<- V];clear V;refine zR (L.out W Z (E.below Z)) fun w1 hb1 => ?_;have Y := zbt Z hb1;go_wp2_with fail;go_ret2;exact ⟨_, rfl, rfl, Y⟩
theorem seT (w : World) (Q N R M O : Value) (P : List PtQ) (T : List Tri) (k : Nat) (b U : List ByteArray) (S : List (List ByteArray)) (h : DepT w Q N R M O P T k b U S) (u : ByteArray) (X : depE P T b U S ≠ 0) (E : Good w) :
 Calls Tryz.prog 21 #[.agg #[Q, N], .agg #[R, M, O], .string u] w (Ret (fun r _ => r = .tuple #[.string ⟨#[]⟩, .int .i64 (depE P T b U S)]) w) := by
 have L : Hid (∀ w', Below w.heap.size w w' -> Good w' -> _) := fun w' hb hg' => ser w' _ _ _ _ _ P T k b U S (h.below hb) u X hg';have K : (depE P T b U S != 0) = true := by rw [bne_iff_ne]; exact X
 generalize depE P T b U S = ez at *;obtain ⟨C, I, rfl, -, -, -⟩ := h.p.open;obtain ⟨A, H, rfl, -, -, -⟩ := h.t.open;obtain ⟨D, J, rfl, -, -, -⟩ := h.base.open;obtain ⟨z, G, rfl, -, -, -⟩ := h.unit.open;obtain ⟨B, cs, rfl, -, -⟩ := h.surf.shape;clear h X;go_enter Tryz.func21, Tryz.ntmps21;go_wp2_with fail;obtain ⟨W, V⟩ := zex ((w.alloc (.cells #[.slice C (strP P).length I, .slice A T.length H] 41)).alloc (.cells #[.slice D b.length J, .slice z U.length G, .slice B S.length cs] 45));have Z : Below w.heap.size w W := by rw [V]; exact zal2 _ _ _
 rw [<- V];clear V;refine zR (L.out W Z (E.below Z)) fun w1 hb1 => ?_;have Y := zbt Z hb1;go_wp2_with fail;go_ret2;exact ⟨_, rfl, rfl, Y⟩
theorem so0 (w : World) (Q N R M O : Value) (P : List PtQ) (T : List Tri) (k : Nat) (b U : List ByteArray) (S : List (List ByteArray)) (h : DepT w Q N R M O P T k b U S) (u : ByteArray) (X : depE P T b U S ≠ 0) (E : Good w) :
 Calls Tryz.prog 22 #[.agg #[Q, N], .agg #[R, M, O], .string u] w (Ret (fun r _ => r = .tuple #[.slice none 0 0, .int .i64 (depE P T b U S)]) w) := by
 have L : Hid (∀ w', Below w.heap.size w w' -> Good w' -> _) := fun w' hb hg' => ser w' _ _ _ _ _ P T k b U S (h.below hb) u X hg';have K : (depE P T b U S != 0) = true := by rw [bne_iff_ne]; exact X
 generalize depE P T b U S = ez at *;obtain ⟨C, I, rfl, -, -, -⟩ := h.p.open;obtain ⟨A, H, rfl, -, -, -⟩ := h.t.open;obtain ⟨D, J, rfl, -, -, -⟩ := h.base.open;obtain ⟨z, G, rfl, -, -, -⟩ := h.unit.open;obtain ⟨B, cs, rfl, -, -⟩ := h.surf.shape;clear h X;go_enter Tryz.func22, Tryz.ntmps22;go_wp2_with fail;obtain ⟨W, V⟩ := zex ((w.alloc (.cells #[.slice C (strP P).length I, .slice A T.length H] 41)).alloc (.cells #[.slice D b.length J, .slice z U.length G, .slice B S.length cs] 45));have Z : Below w.heap.size w W := by rw [V]; exact zal2 _ _ _
 rw [<- V];clear V;refine zR (L.out W Z (E.below Z)) fun w1 hb1 => ?_;have Y := zbt Z hb1;go_wp2_with fail;go_ret2;exact ⟨_, rfl, rfl, Y⟩
theorem sl0 (w : World) (K I L H J : Value) (P : List PtQ) (T : List Tri) (k : Nat) (b U : List ByteArray) (S : List (List ByteArray)) (h : DepT w K I L H J P T k b U S) (N : ByteArray) (M : Int) (O : depE P T b U S ≠ 0) (s : Good w) :
 Calls Tryz.prog 11 #[.agg #[K, I], .agg #[L, H, J], .agg #[.string N, .int .i64 M, .slice none 0 0]] w (Ret (fun r _ => r = .tuple #[.agg #[.slice none 0 0, .slice none 0 0, .slice none 0 0], .int .i64 (depE P T b U S)]) w) := by
 have G : Hid (∀ w', Below w.heap.size w w' -> Good w' -> _) := fun w' hb hg' => sa0 w' _ _ _ _ _ P T k b U S (h.below hb) hg';have E : (depE P T b U S != 0) = true := by rw [bne_iff_ne]; exact O
 generalize depE P T b U S = ez at *;obtain ⟨o, B, rfl, -, -, -⟩ := h.p.open;obtain ⟨m, A, rfl, -, -, -⟩ := h.t.open;obtain ⟨q, C, rfl, -, -, -⟩ := h.base.open;obtain ⟨l, z, rfl, -, -, -⟩ := h.unit.open;obtain ⟨n, cs, rfl, -, -⟩ := h.surf.shape;clear h O;go_enter Tryz.func11, Tryz.ntmps11;go_wp2_with fail;obtain ⟨W, Y⟩ := zex ((((w.alloc (.cells #[.slice o (strP P).length B, .slice m T.length A] 41)).alloc (.cells #[.slice q b.length C, .slice l U.length z, .slice n S.length cs] 45)).alloc (.cells #[.string N, .int .i64 M, .slice none 0 0] 35)).alloc (.cells #[.slice none 0 0, .slice none 0 0, .slice none 0 0] 45));have X : Below w.heap.size w W := by rw [Y]; exact ((((Below.refl _ _).alloc (Nat.le_refl _) _).alloc (by simp) _).alloc (by simp; omega) _).alloc (by simp; omega) _
 have Z : BoxN W (w.heap.size + 3) 45 [.slice none 0 0, .slice none 0 0, .slice none 0 0] := by rw [Y]; exact BoxN.new _ _ _ _ (by simp)
 rw [<- Y];clear Y;refine zR (G.out W X (s.below X)) fun w1 hb1 => ?_;have V := zbt X hb1;replace Z := Z.bl hb1;obtain ⟨c0, c1, c2⟩ := zk3 Z;have f0 := Z.frozen 0;have f1 := Z.frozen 1;have f2 := Z.frozen 2;have Q : w.heap.size <= (w.heap.size + 3) := by omega
 have D := ((Z.set 0 (.slice none 0 0)).set 1 (.slice none 0 0)).set 2 (.slice none 0 0);have R := ((V.setCell (p := ⟨(w.heap.size + 3), 0, none⟩) Q (.slice none 0 0)).setCell (p := ⟨(w.heap.size + 3), 1, none⟩) Q (.slice none 0 0)).setCell (p := ⟨(w.heap.size + 3), 2, none⟩) Q (.slice none 0 0);obtain ⟨y, x, t⟩ := zk3 D;go_wp2_with fail;exact bodyPost_ret (v := .tuple #[.agg #[.slice none 0 0, .slice none 0 0, .slice none 0 0], .int .i64 ez]) (by simp [results, Tryz.results11, go_sem, y, x, t]) rfl ⟨_, rfl, rfl, R⟩
theorem sk0 (w : World) (M K N J L : Value) (P : List PtQ) (T : List Tri) (k : Nat) (b U : List ByteArray) (S : List (List ByteArray)) (h : DepT w M K N J L P T k b U S) (u : ByteArray) (O : depE P T b U S ≠ 0) (x : Good w) :
 Calls Tryz.prog 32 #[.agg #[M, K], .agg #[N, J, L], .string u] w (Ret (fun r _ => r = .tuple #[.agg #[.slice none 0 0, .slice none 0 0, .slice none 0 0], .int .i64 (depE P T b U S)]) w) := by
 have I : Hid (∀ w', Below w.heap.size w w' -> Good w' -> _) := fun w' hb hg' => sa0 w' _ _ _ _ _ P T k b U S (h.below hb) hg';have H : (depE P T b U S != 0) = true := by rw [bne_iff_ne]; exact O
 generalize depE P T b U S = ez at *;obtain ⟨s, D, rfl, -, -, -⟩ := h.p.open;obtain ⟨o, C, rfl, -, -, -⟩ := h.t.open;obtain ⟨t, E, rfl, -, -, -⟩ := h.base.open;obtain ⟨n, B, rfl, -, -, -⟩ := h.unit.open;obtain ⟨q, cs, rfl, -, -⟩ := h.surf.shape;clear h O;go_enter Tryz.func32, Tryz.ntmps32;go_wp2_with fail;obtain ⟨W, Y⟩ := zex (((w.alloc (.cells #[.slice s (strP P).length D, .slice o T.length C] 41)).alloc (.cells #[.slice t b.length E, .slice n U.length B, .slice q S.length cs] 45)).alloc (.cells #[.slice none 0 0, .slice none 0 0, .slice none 0 0] 45));have X : Below w.heap.size w W := by rw [Y]; exact (((Below.refl _ _).alloc (Nat.le_refl _) _).alloc (by simp) _).alloc (by simp; omega) _
 have Z : BoxN W (w.heap.size + 2) 45 [.slice none 0 0, .slice none 0 0, .slice none 0 0] := by rw [Y]; exact BoxN.new _ _ _ _ (by simp)
 rw [<- Y];clear Y;refine zR (I.out W X (x.below X)) fun w1 hb1 => ?_;have V := zbt X hb1;replace Z := Z.bl hb1;obtain ⟨c0, c1, c2⟩ := zk3 Z;have f0 := Z.frozen 0;have f1 := Z.frozen 1;have f2 := Z.frozen 2;have Q : w.heap.size <= (w.heap.size + 2) := by omega
 have G := ((Z.set 0 (.slice none 0 0)).set 1 (.slice none 0 0)).set 2 (.slice none 0 0);have R := ((V.setCell (p := ⟨(w.heap.size + 2), 0, none⟩) Q (.slice none 0 0)).setCell (p := ⟨(w.heap.size + 2), 1, none⟩) Q (.slice none 0 0)).setCell (p := ⟨(w.heap.size + 2), 2, none⟩) Q (.slice none 0 0);obtain ⟨A, z, y⟩ := zk3 G;go_wp2_with fail;exact bodyPost_ret (v := .tuple #[.agg #[.slice none 0 0, .slice none 0 0, .slice none 0 0], .int .i64 ez]) (by simp [results, Tryz.results32, go_sem, A, z, y]) rfl ⟨_, rfl, rfl, R⟩
end Go.Proofs.YtmcbeajdloaliaaGreatDoor
