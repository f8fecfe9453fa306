import Derived.Test.YtbfcmipplhkkeaaGreatDoorVF95
/- Lists of parts The walk over field.Above. Plain The walk over klippelaw13.level. The walk over klipperef02.Right, of any text. field.level and field.Volume with a number that is not right. field.Above and field.Level with a number that is not right The walks over thickness.Isopach, slices.Equal of segments, klippelaw38.same. -/
set_option maxHeartbeats 16000000
set_option maxRecDepth 100000
namespace Go.Proofs.YtbfcmipplhkkeaaGreatDoor
open Go.RowKit Go.Lib
def cUU : List (Nat × List PtQ) -> List Value -> List Value
 | x :: L, u :: us => .int .i64 (x.1 : Int) :: u :: cUU L us
 | _, _ => []
theorem cUs : ∀ (L : List (Nat × List PtQ)) (Z : List Value) (x : Nat × List PtQ) (u : Value), Z.length = L.length -> cUU (L ++ [x]) (Z ++ [u]) = cUU L Z ++ [.int .i64 (x.1 : Int), u]
 | [], [], x, u, _ => rfl
 | y :: L, v :: Z, x, u, h => by
   show Value.int .i64 (y.1 : Int) :: v :: cUU (L ++ [x]) (Z ++ [u]) = _;rw [cUs L Z x u (by simpa using h)];rfl
 | [], _ :: _, _, _, h => by cases h
 | _ :: _, [], _, _, h => by cases h
theorem cUg : ∀ (L : List (Nat × List PtQ)) (Z : List Value) (j : Nat) (x : Nat × List PtQ) (u : Value), L[j]? = some x -> Z[j]? = some u -> (cUU L Z)[j * 2]? = some (.int .i64 (x.1 : Int)) /\ (cUU L Z)[j * 2 + 1]? = some u
 | [], _, _, _, _, h, _ => by simp at h
 | _ :: _, [], _, _, _, _, h => by simp at h
 | y :: L, v :: Z, 0, x, u, h1, h2 => by
   simp at h1 h2;subst h1; subst h2;exact ⟨rfl, rfl⟩
 | y :: L, v :: Z, j + 1, x, u, h1, h2 => by
   obtain ⟨Y, X⟩ := cUg L Z j x u (by simpa using h1) (by simpa using h2);rw [show (j + 1) * 2 = j * 2 + 1 + 1 by omega];exact ⟨by rw [<- Y]; rfl, by rw [<- X]; rfl⟩
def PartsV (E : Nat) (w : World) (B : Nat) (v : Value) (L : List (Nat × List PtQ)) : Prop :=
 ∃ us : List Value, us.length = L.length /\ w.ownsRow B E 2 v L.length (cUU L us) /\ ∀ (j : Nat) (x : Nat × List PtQ) (u : Value), L[j]? = some x -> us[j]? = some u -> PtsV w B u x.2
theorem PartsV.nil (E : Nat) (w : World) (B : Nat) : PartsV E w B (.slice none 0 0) [] := ⟨[], rfl, World.ownsRow_nil _ _ _ _, fun j x u h => by simp at h⟩
theorem PartsV.below {E : Nat} {w w' : World} {B : Nat} {v : Value} {L : List (Nat × List PtQ)} (h : PartsV E w B v L) (Z : Below w.heap.size w w') : PartsV E w' B v L := by
 obtain ⟨U, Y, X, V⟩ := h;exact ⟨U, Y, WRA X Z, fun j x u e1 e2 => (V j x u e1 e2).below Z⟩
theorem PartsV.base {E : Nat} {w : World} {B B' : Nat} {v : Value} {L : List (Nat × List PtQ)} (h : PartsV E w B v L) (Z : B' <= B) : PartsV E w B' v L := by
 obtain ⟨U, Y, X, V⟩ := h;exact ⟨U, Y, oRb X Z, fun j x u e1 e2 => (V j x u e1 e2).base Z⟩
theorem PartsV.shape {E : Nat} {w : World} {B : Nat} {v : Value} {L : List (Nat × List PtQ)} (h : PartsV E w B v L) : ∃ p c, v = .slice p L.length c := by
 obtain ⟨Y, -, Z, -⟩ := h;exact oRs Z
theorem PartsV.at {E : Nat} {w : World} {B : Nat} {p : Option Addr} {n c : Nat} {L : List (Nat × List PtQ)} (h : PartsV E w B (.slice p n c) L) {j : Nat} {x : Nat × List PtQ} (Y : L[j]? = some x) :
 ∃ g u, p = some ⟨g, 0, none⟩ /\ g < w.heap.size /\ w.cell? ⟨g, j * 2, none⟩ = some (.int .i64 (x.1 : Int)) /\ w.cell? ⟨g, j * 2 + 1, none⟩ = some u /\ PtsV w B u x.2 := by
 obtain ⟨S, H, X, N⟩ := h;have K := (List.getElem?_eq_some_iff.1 Y).1;obtain ⟨u, U⟩ : ∃ u, S[j]? = some u := ⟨_, List.getElem?_eq_getElem (by omega)⟩;obtain ⟨Q, O⟩ := cUg L S j x u Y U;rcases X.2 with ⟨_, I⟩ | ⟨g, cap, R, J, _, M, _⟩
 ·omega
 ·injection J with hp _ _
  have V := fun i y e => World.ownsRow.cells X (g := g) (by rw [hp]; rfl) i y e
  have Z : ∀ i, (⟨g, 0, none⟩ : Addr).add i = ⟨g, i, none⟩ := fun i => by unfold Addr.add; split <;> simp_all
  have c0 := V (j * 2) _ Q;have c1 := V (j * 2 + 1) _ O;rw [Z] at c0 c1;exact ⟨g, u, hp, (Array.getElem?_eq_some_iff.1 M).1, c0, c1, N j x u Y U⟩
theorem PartsV.snoc {E : Nat} (S : 50 ≠ E) {w w' : World} {B : Nat} {v v' u : Value} {L : List (Nat × List PtQ)} {us : List Value} {t : Nat} {l : List PtQ} (Y : us.length = L.length) (V : w.ownsRow B E 2 v L.length (cUU L us))
 (U : ∀ (j : Nat) (x : Nat × List PtQ) (u : Value), L[j]? = some x -> us[j]? = some u -> PtsV w B u x.2) (R : w.grownBy w' v.ownBlock) (Z : w'.ownsRow B E 2 v' (L.length + 1) (cUU L us ++ [.int .i64 (t : Int), u])) (Q : PtsV w B u l) : PartsV E w' B v' (L ++ [(t, l)]) := by
 have key : ∀ {x l}, PtsV w B x l -> PtsV w' B x l := fun h => World.ownsRow.kept h R (oat h V S);refine ⟨us ++ [u], by simp [Y], by rw [cUs L us (t, l) u Y, List.length_append]; exact Z, fun j x y e1 e2 => ?_⟩;rcases Nat.lt_or_ge j L.length with h | h
 ·rw [List.getElem?_append_left h] at e1
  rw [List.getElem?_append_left (by omega)] at e2;exact key (U j x y e1 e2)
 ·have X := (List.getElem?_eq_some_iff.1 e1).1
  rw [List.length_append] at X;obtain rfl : j = L.length := by simp at X; omega
  rw [List.getElem?_append_right (Nat.le_refl _), Nat.sub_self] at e1;rw [List.getElem?_append_right (by omega), Y, Nat.sub_self] at e2;simp at e1 e2;subst e1; subst e2;exact key Q
theorem ipt : ((Tryz.prog).info? 63).map (fun i => (i.zero, i.size, i.bytes)) = some (some (.agg #[.int .i64 0, .slice none 0 0]), 2, 32) := by kernel_rfl
theorem tpt (i : Int) (p : Option Addr) (n c : Nat) : ∀ r ∈ [Value.int .i64 i, .slice p n c], r.oneCell' = true := by
 intro r Z; simp at Z; rcases Z with rfl | rfl <;> rfl
def mapP (l : List Cor) (j : Nat) : List PtQ := (l.take j).map (·.1)
theorem mPn {l : List Cor} {j : Nat} (h : j < l.length) : mapP l (j + 1) = mapP l j ++ [l[j].1] := by
 unfold mapP; rw [List.take_succ_eq_append_getElem h, List.map_append]; rfl
theorem cnl (a : Addr) (n c : Nat) (w : World) : (binOp BinOp.eql 92 (.slice (some a) n c) (.slice none 0 0)).run Tryz.prog w = .ok (.bool false) w := by kernel_rfl
theorem cC0 (w : World) : (binOp BinOp.eql 92 (.slice none 0 0) (.slice none 0 0)).run Tryz.prog w = .ok (.bool true) w := by kernel_rfl
theorem af0 (w : World) (vp vt vf : Value) (P : List PtQ) (T : List Tri) (k : Nat) (F : List Rat) (h : FieldIn w vp vt vf P T k F) (z : Rat) (m : Nat) (hz : Sz m z) (hM : 6 * k + 3 * m + 6 <= 200) (hg : Good w) :
 Calls Tryz.prog 13 #[.agg #[vp, vt], vf, .string (RS z)] w (Ret (fun r w' => ∃ v, r = .tuple #[v, .int .i64 0] /\ PartsV 63 w' w.heap.size v (aTo P T F z T.length)) w) := by
 have HH := hid h;have zx := h.m.kpos;have hY : Hid (∀ w', FieldIn w' vp vt vf P T k F -> Good w' -> _) := fun w' h hg => fok w' vp vt vf P T k F h z (hz.mono (by omega)) hg
 have hy : Hid (∀ tr ∈ T, ∀ x ∈ idxOf tr, SzP k (ptI P x) /\ Sz k (hI F x)) := fun tr htr x hx => by
  obtain ⟨h0, h1⟩ := h.m.idx tr htr x hx;obtain ⟨q, rfl⟩ : ∃ q : Nat, x = (q : Int) := ⟨x.toNat, by omega⟩;rw [pIn P q (by omega), he0 F q (by have := h.fl; omega)];exact ⟨h.m.sz _ (List.getElem_mem _), h.fs _ (List.getElem_mem _)⟩
 have zj : Hid (∀ (i : Nat) (hi : i < T.length) (w' : World), FieldIn w' vp vt vf P T k F -> Good w' -> _) := fun i hi w' h' hg' => cc0 w' vp vt vf P T k F h'.p h'.t h'.m.toMIn h'.f h'.fl i i rfl hi (triI T i) (tIn T i hi) hg';have zk : Hid (∀ (i : Nat) (hi : i < T.length) (w' : World), Good w' -> _) := fun i hi w' hg' => pd0 P F (triI T i) z k m zx (by omega) (hy.out (triI T i) (by rw [tIn T i hi]; exact List.getElem_mem hi)) hz w' hg'
 have z5 : Hid (∀ (i : Nat) (hi : i < T.length), ∀ c ∈ partT P F z (triI T i), SzP 200 c.1) := fun i hi c hc => by
  have s := hy.out (triI T i) (by rw [tIn T i hi]; exact List.getElem_mem hi);have := cLS (c0 := corP P F (triI T i).1) (c1 := corP P F (triI T i).2.1) (c2 := corP P F (triI T i).2.2) (s _ (by simp [idxOf])) (s _ (by simp [idxOf])) (s _ (by simp [idxOf])) hz c hc;exact ⟨this.1.mono hM, this.2.mono hM⟩
 have zl : Hid (∀ (i : Nat) (hi : i < T.length), partT P F z (triI T i) ≠ [] -> ∀ (w' : World) (v : Value), RdP w' v (strP ((partT P F z (triI T i)).map (·.1))) -> Good w' -> Calls Tryz.prog 42 #[v] w' (Ret (fun r w2 => ∃ u, r = .tuple #[u, .int .i64 0] /\ PtsV w2 w'.heap.size u (begM ((partT P F z (triI T i)).map (·.1)))) w')) := fun i hi hne w' v hv hg' =>
  hPa w' v _ (pcx (aQp h.m (by rw [tIn T i hi]; exact List.getElem_mem hi)) hne) (fun p hp => by obtain ⟨c, hc, rfl⟩ := List.mem_map.1 hp; exact z5.out i hi c hc) hv hg'
 obtain ⟨pp, cp, pt, ct, pf, cf, rfl, rfl, rfl⟩ := h.open;obtain ⟨i0, zu, ze, zf, zg⟩ := info_parts ipt;obtain ⟨j0, zw, zb, zc, zd⟩ := info_parts ip9;have zF : T.length <= 800 := h.m.tlen;generalize RS z = sz at *;clear h hz hM hy;have zC := cnl;have zy := cC0;go_enter Tryz.func13, Tryz.ntmps13;go_wp2_with fail;obtain ⟨W, hW⟩ := zex (w.alloc (.cells #[.slice pp P.length cp, .slice pt T.length ct] 35));have hB : Below w.heap.size w W := by rw [hW]; exact zal _ _
 have b0 : BoxN W w.heap.size 35 [.slice pp P.length cp, .slice pt T.length ct] := by rw [hW]; exact BoxN.new _ _ _ _ rfl
 rw [<- hW];clear hW;refine (hY.out W (HH.out.below hB) (hg.below hB)).mono ?_;rintro e G ⟨_, rfl, rfl, hF⟩;have R := zbt hB hF;have b1 := b0.below hF b0.lt;have x1 := b1.cell 1 rfl;clear hF hB b0 hY;go_wp2_with fail;clear x1;go_loopw [9, 26] (fun t9 t26 wr => ∃ (i : Nat), t26 = .int .i64 i /\ i <= T.length /\ PartsV 63 wr G.heap.size t9 (aTo P T F z i) /\ Below G.heap.size G wr) (fun _ t26 _ => T.length - (RowKit.intOf t26).toNat)
 case atStart => exact ⟨0, rfl, Nat.zero_le _, PartsV.nil _ _ _, Below.refl _ _⟩
 case round =>
  obtain ⟨i, rfl, zG, a, B⟩ := hrel;obtain ⟨wo, zz⟩ := zex (wr : World);subst zz;rcases Nat.lt_or_ge i T.length with h | h
  ·have hL : Below w.heap.size w wo := zbt R B
   have z3 := hid (aTl P T F z i);obtain ⟨p9, c9, rfl⟩ := a.shape;have E := hid a;obtain ⟨n9, hO⟩ : ∃ n, n = (aTo P T F z i).length := ⟨_, rfl⟩;rw [<- hO] at E z3 ⊢;have z2 := hid hO;have zB : n9 <= i := z3.out;obtain ⟨Z, L⟩ : ∃ l, l = partT P F z (triI T i) := ⟨_, rfl⟩;obtain ⟨N, hN⟩ := zex (Z.length);have hU : Hid (∀ w', Below w.heap.size w w' -> _) := fun w' hb => zj.out i h w' (HH.out.below hb) (hg.below hb);have h9 : Hid (∀ w', Good w' -> _) := fun w' hg' => zk.out i h w' hg';have hf : Hid (∀ c ∈ partT P F z (triI T i), SzP 200 c.1) := z5.out i h;have ha := hid (zl.out i h);have h4 : Hid (aTo P T F z (i + 1) = aTo P T F z i ++ (if partT P F z (triI T i) = [] then [] else [(i, begM ((partT P F z (triI T i)).map (·.1)))])) := rfl;have zE : N <= 6 := by rw [hN, L]; exact cLl _ _ _ _
   rw [<- L] at h9 hf ha h4;have U := hid hN;generalize RS (ptI P (triI T i).1).1 = q0 at *;generalize RS (ptI P (triI T i).1).2 = q1 at *;generalize RS (hI F (triI T i).1) = q2 at *;generalize RS (ptI P (triI T i).2.1).1 = q3 at *;generalize RS (ptI P (triI T i).2.1).2 = q4 at *;generalize RS (hI F (triI T i).2.1) = q5 at *;generalize RS (ptI P (triI T i).2.2).1 = q6 at *;generalize RS (ptI P (triI T i).2.2).2 = q7 at *;generalize RS (hI F (triI T i).2.2) = q8 at *;have hD := b1.below B b1.lt;have x0 := hD.cell 0 rfl;have x1 := hD.cell 1 rfl;have zv : (i : Int) < (T.length : Int) := by omega
   have zK := B.size;clear L hN a hO;go_wp2_with fail;refine (hU.out wo hL).mono ?_;rintro e w2 ⟨_, rfl, rfl, hG⟩;have t : Below G.heap.size G w2 := zbt B hG;have hh : Below w.heap.size w w2 := zbt R t;have hd := hid (E.out.below hG);clear x0 x1 hD hG E;go_wp2_with fail;refine (h9.out w2 (hg.below hh)).mono ?_;rintro e H ⟨zh, rfl, hS, hH⟩;have o : Below G.heap.size G H := zbt t hH;have he := hid (hd.out.below hH);have h2 := hS.2;have I : H.ownsRow w2.heap.size 89 3 zh N (cCC Z) := by rw [U.out]; exact hS.1
   clear t hH hS hh hd;rcases Nat.eq_zero_or_pos N with hE | hE
   ·have hR : Z = [] := List.length_eq_zero_iff.1 (U.out ▸ hE)
    have h3 := h2 hR;subst h3;have ht : Hid (aTo P T F z (i + 1) = aTo P T F z i) := by unfold Hid; rw [h4.out, if_pos hR, List.append_nil]
    clear h2 I hR hE;go_wp2_with fail;go_roundw
    case rel => exact ⟨i + 1, by go_num, by omega, by rw [ht.out]; exact he.out, o⟩
    case measure => simp [RowKit.intOf]; omega
   ·have hw : Hid (¬ Z = []) := fun e => by have := U.out; rw [e] at this; simp at this; omega
    have hn : H.ownsRow w2.heap.size 89 3 zh Z.length (cCC Z) := by rw [<- U.out]; exact I
    obtain ⟨D, zD, h3, K⟩ := ron hn hw.out;subst h3;have h8 := hid K;clear K;rw [<- U.out];have g : D < H.heap.size := (I.lt D rfl).2;have zi : Hid (∀ (j : Nat) (hj : j < Z.length), H.cell? ⟨D, j * 3, none⟩ = some (.string (RS Z[j].1.1)) /\ H.cell? ⟨D, j * 3 + 1, none⟩ = some (.string (RS Z[j].1.2)) /\ H.cell? ⟨D, j * 3 + 2, none⟩ = some (.string (RS Z[j].2))) := h8.out;have ht : Hid (aTo P T F z (i + 1) = aTo P T F z i ++ [(i, begM (Z.map (·.1)))]) := by unfold Hid; rw [h4.out, if_neg hw.out]
    clear h2 I hn h8 h4;go_wp2_with fail;go_loopw [12, 39] (fun t12 t39 wr => ∃ (j : Nat), t39 = .int .i64 j /\ j <= N /\ wr.ownsRow H.heap.size 50 2 t12 j (cPP (strP (mapP Z j))) /\ Below H.heap.size H wr) (fun _ t39 _ => N - (RowKit.intOf t39).toNat)
    case atStart => exact ⟨0, rfl, Nat.zero_le _, World.ownsRow_nil _ _ _ _, Below.refl _ _⟩
    case round =>
     obtain ⟨j, rfl, zH, S, Q⟩ := hrel;obtain ⟨pj, cj, rfl⟩ := oRs S;have C := zbt o Q;rcases Nat.lt_or_ge j N with hj | hj
     ·have zJ : (j : Int) < (N : Int) := by omega
      have h6 : j < Z.length := by rw [<- U.out]; exact hj
      obtain ⟨k0, k1, k2⟩ := zi.out j h6;replace k0 := (zcq Q g k0 :);replace k1 := (zcq Q g k1 :);replace k2 := (zcq Q g k2 :);have hZ := hid (mPn h6);have hX := hid (fun w hg => cok Z[j].1 (hf.out Z[j] (List.getElem_mem h6)) w hg);obtain ⟨A, hA⟩ := zex (Z[j]);rw [<- hA] at k0 k1 k2 hZ hX;clear hA h6;go_upto_region 14 with fail;obtain ⟨V, hV⟩ := zex (wr.alloc (.cells #[.string (RS A.1.1), .string (RS A.1.2), .string (RS A.2)] 89));have hK : Below wr.heap.size wr V := by rw [hV]; exact zal _ _
      have bx : BoxN V wr.heap.size 89 [.string (RS A.1.1), .string (RS A.1.2), .string (RS A.2)] := by rw [hV]; exact BoxN.new _ _ _ _ rfl
      rw [<- hV];have hk := zbt Q hK;have zs := R.trans (((zbt o hk)).mono R.size);have b := WRA S hK;have z0 := bx.cell 0 rfl;have z1 := bx.cell 1 rfl;clear hV k0 k1 k2 S;go_wp2_with fail;refine (hX.out V (hg.below zs)).mono ?_;rintro e Y ⟨_, rfl, rfl, h5⟩;have hl := zbt hk h5;have hC := bx.below h5 bx.lt;have M := WRA b h5;have hT := hl.size;clear z0 z1 bx hK h5 b;have z0 := hC.cell 0 rfl;have z1 := hC.cell 1 rfl
      go_wp2_with (at_builtin; refine wpList_append_own _ rfl _ _ 32 rfl H.heap.size 50 j0 (.agg #[.string ⟨#[]⟩, .string ⟨#[]⟩]) 2 32 Tryz.underlying32 zw zb zc zd rfl (by decide) _ _ _ rfl (M.alloc _) ⟨Y.heap.size, 0, none⟩ 1 1 [.string (RS A.1.1), .string (RS A.1.2)] rfl rfl (cto _ _ _ _) (tsr _ _) (by unfold maxLen; omega) (by omega) (by simp; omega) ?_
                   intro v7 w7 f J _;have z7 : Below H.heap.size H w7 := (hl.alloc hT _).grown J (by simp; omega) (fun q hq => by have := (M.lt q hq).1; omega);clear J)
      have hP : w7.ownsRow H.heap.size 50 2 v7 (j + 1) (cPP (strP (mapP Z (j + 1)))) := by rw [hZ.out, sPa, cd0]; exact f
      clear f z0 z1 hC M;go_wp2_with fail;go_roundw
      case rel => exact ⟨j + 1, by go_num, by omega, hP, z7⟩
      case measure => simp [RowKit.intOf]; omega
     ·have zI : ¬ (j : Int) < (N : Int) := by omega
      obtain rfl : j = N := by omega
      have zt := zbt R C;have zm : Hid (mapP Z j = Z.map (·.1)) := by unfold Hid mapP; rw [U.out, List.take_length]
      have zo : Hid (RdP wr (.slice pj j cj) (strP (Z.map (·.1)))) := by
       unfold Hid;have h1 : RdC 2 wr (.slice pj j cj) j (cPP (strP (mapP Z j))) := RdC.of_owns S;rw [zm.out] at h1;unfold RdP;rw [sPl, List.length_map, <- U.out];exact h1
      have z4 := hid (he.out.below Q);clear S Q;go_wp2_with fail;refine (ha.out hw.out wr _ zo.out (hg.below zt)).mono ?_;rintro e w5 ⟨_, rfl, ⟨u, rfl, hu⟩, hJ⟩;have hm := zbt C hJ;have za := z4.out.below hJ;have h7 : PtsV w5 G.heap.size u (begM (Z.map (·.1))) := hu.base C.size;obtain ⟨us, ho, hr, hs⟩ := za;obtain ⟨pu, cu, rfl⟩ := h7.shape;obtain ⟨nu, z9⟩ : ∃ n, n = (begM (Z.map (·.1))).length := ⟨_, rfl⟩;rw [<- z9] at h7 ⊢;have zp := hid ho;have z6 := hid hr;have zq := hid hs;have zr := hid h7;have O : w5.ownsRow G.heap.size 63 2 (.slice p9 n9 c9) n9 (cUU (aTo P T F z i) us) := by
       have h := z6.out;rw [<- z2.out] at h;exact h
      have hT := hm.size;clear ho hr hs h7 hu z9 hJ
      go_wp2_with (at_builtin; refine wpList_append_own _ rfl _ _ 57 rfl G.heap.size 63 i0 (.agg #[.int .i64 0, .slice none 0 0]) 2 32 Tryz.underlying57 zu ze zf zg rfl (by decide) _ _ _ rfl (O.alloc _) ⟨w5.heap.size, 0, none⟩ 1 1 [.int .i64 (i : Int), .slice pu nu cu] rfl rfl (cto _ _ _ _) (tpt _ _ _ _) (by unfold maxLen; omega) (by omega) (by simp; omega) ?_
                   intro v9 w9 d X zA;clear zA;have z8 : Below G.heap.size G w9 := (hm.alloc hT _).grown X (by simp; omega) (fun q hq => by have := (O.lt q hq).1; omega);have zn : Hid (PartsV 63 w9 G.heap.size v9 (aTo P T F z i ++ [(i, begM (Z.map (·.1)))])) := PartsV.snoc (w := w5.alloc (.cells #[.int .i64 (i : Int), .slice pu nu cu] 63)) (by decide) zp.out (World.ownsRow.alloc z6.out _) (fun q x y e1 e2 => (zq.out q x y e1 e2).below ((Below.refl _ _).alloc (Nat.le_refl _) _)) X (by rw [<- z2.out]; exact d) (zr.out.below ((Below.refl _ _).alloc (Nat.le_refl _) _));clear X d)
      clear O;go_wp2_with fail;go_roundw
      case rel => exact ⟨i + 1, by go_num, by omega, by rw [ht.out]; exact zn.out, z8⟩
      case measure => simp [RowKit.intOf]; omega
  ·have zv : ¬ (i : Int) < (T.length : Int) := by omega
   obtain rfl : i = T.length := by omega
   have E := hid (a.base R.size);have hL : Below w.heap.size w wo := zbt R B;clear a;go_wp2_with fail;go_ret2;exact ⟨_, rfl, ⟨_, rfl, E.out⟩, hL⟩
def rejB (P : List PtQ) (T : List Tri) (F : List Rat) (z : Rat) (tr : Tri) (ks : Int) (k : Nat) : Bool :=
 decide (ks = (k : Int)) && (decide (nbT T tr (k : Int) < 0) || !(partT P F z (triI T (nbT T tr (k : Int)))).isEmpty)
theorem sTc (P : List PtQ) (tr : Tri) (a b : PtQ) : sideT P tr a b = -1 \/ sideT P tr a b = 0 \/ sideT P tr a b = 1 \/ sideT P tr a b = 2 := sLc _ _ _ _ _
theorem kno {P : List PtQ} {T : List Tri} {F : List Rat} {z : Rat} {tr : Tri} {A B : Cor} {k : Nat} (h : rejB P T F z tr (sideT P tr A.1 B.1) k = true) : keepB P T F z tr A B = false := by
 unfold rejB at h;rw [Bool.and_eq_true, decide_eq_true_eq] at h;obtain ⟨e, h⟩ := h;unfold keepB;rw [e, decide_eq_false (show ¬ ((k : Int) < 0) by omega)];rw [Bool.or_eq_true, decide_eq_true_eq] at h;rcases h with h | h
 ·rw [decide_eq_false (show ¬ (0 <= nbT T tr (k : Int)) by omega)]
  simp
 ·rw [Bool.not_eq_true'] at h
  rw [h];simp
theorem kys {P : List PtQ} {T : List Tri} {F : List Rat} {z : Rat} {tr : Tri} {A B : Cor} (hA : A.2 = z) (Z : B.2 = z) (h : ∀ k, k < 3 -> rejB P T F z tr (sideT P tr A.1 B.1) k = false) : keepB P T F z tr A B = true := by
 unfold keepB;rw [decide_eq_true hA, decide_eq_true Z];have key : ∀ k : Nat, k < 3 -> sideT P tr A.1 B.1 = (k : Int) -> (decide (0 <= nbT T tr (k : Int)) && (partT P F z (triI T (nbT T tr (k : Int)))).isEmpty) = true := fun k hk e => by
  have := h k hk;unfold rejB at this;rw [decide_eq_true e, Bool.true_and, Bool.or_eq_false_iff, decide_eq_false_iff_not] at this;rw [decide_eq_true (by omega), Bool.true_and];simpa using this.2
 rcases sTc P tr A.1 B.1 with e | e | e | e
 ·rw [e]; rfl
 ·have := key 0 (by omega) e
  rw [e];simpa using this
 ·have := key 1 (by omega) e
  rw [e];simpa using this
 ·have := key 2 (by omega) e
  rw [e];simpa using this
def idK (tr : Tri) (k : Nat) : Int := (idxOf tr)[k]?.getD 0
theorem sat {P : List PtQ} {tr : Tri} (hA : 0 < areaQ (ptI P tr.1) (ptI P tr.2.1) (ptI P tr.2.2)) (a b : PtQ) {k j : Nat} (Q : k < 3) (V : j = (k + 1) % 3) : (ptI P (idK tr k) = a /\ ptI P (idK tr j) = b) ↔ sideT P tr a b = (k : Int) := by
 obtain ⟨Z, X, Y⟩ := ane hA;obtain ⟨U, S, R⟩ := sis (a := a) (b := b) Z X Y;rcases (by omega : k = 0 \/ k = 1 \/ k = 2) with rfl | rfl | rfl
 ·subst V; exact U
 ·subst V; exact S
 ·subst V; exact R
theorem pIm (l : List Cor) {j : Nat} (Z : j < l.length) : ptI (l.map (·.1)) (j : Int) = (corI l j).1 := by
 rw [pIn _ j (by rw [List.length_map]; exact Z), cIn l j Z, List.getElem_map]
theorem nTl {T : List Tri} {tr : Tri} {k : Int} (h : 0 <= nbT T tr k) : ∃ j : Nat, nbT T tr k = (j : Int) /\ j < T.length := nIl h
theorem lNa (w : World) (U S V : Value) (P : List PtQ) (T : List Tri) (k : Nat) (F : List Rat) (h : FieldIn w U S V P T k F) (t : Nat) (Z : t < T.length) (z : Rat) (m : Nat) (M : Sz m z) (X : 6 * k + m + 4 <= 200) (O : Good w) :
 Calls Tryz.prog 15 #[.agg #[U, S], V, .int .i64 (t : Int), .string (RS z)] w (Ret (fun r _ => ∃ p n c, r = .slice p n c /\ decide (0 < n) = !(partT P F z (triI T t)).isEmpty) w) :=
 (l1l w U S V P T k F h t Z (triI T t) (tIn T t Z) z m M X O).mono (by
   rintro e w' ⟨r, rfl, ⟨Y, rfl⟩ | ⟨Y, n, L, -, Q⟩, R⟩
   ·exact ⟨_, rfl, ⟨none, 0, 0, rfl, by rw [Y]; rfl⟩, R⟩
   ·obtain ⟨p, c, rfl⟩ := Q.shape
    refine ⟨_, rfl, ⟨p, _, c, rfl, ?_⟩, R⟩;rw [bLl _ n (by rw [List.length_map]; omega), List.length_map];have N := List.length_pos_iff.2 Y;rw [decide_eq_true N];cases hp : partT P F z (triI T t) with
    | nil => exact absurd hp Y
    | cons a l => rfl)
theorem BoxN.set5 {w : World} {b E : Nat} {x0 x1 x2 x3 x4 : Value} (h : BoxN w b E [x0, x1, x2, x3, x4]) (Z Y X V U : Value) : BoxN (((((w.setCell ⟨b, 0, none⟩ Z).setCell ⟨b, 1, none⟩ Y).setCell ⟨b, 2, none⟩ X).setCell ⟨b, 3, none⟩ V).setCell ⟨b, 4, none⟩ U) b E [Z, Y, X, V, U] :=
 ((((h.set 0 Z).set 1 Y).set 2 X).set 3 V).set 4 U
theorem bb0 {w0 w : World} {B b : Nat} (h : Below B w0 w) (Z : B <= b) (Y X V U S : Value) : Below B w0 (((((w.setCell ⟨b, 0, none⟩ Y).setCell ⟨b, 1, none⟩ X).setCell ⟨b, 2, none⟩ V).setCell ⟨b, 3, none⟩ U).setCell ⟨b, 4, none⟩ S) :=
 ((((h.setCell (p := ⟨b, 0, none⟩) Z Y).setCell (p := ⟨b, 1, none⟩) Z X).setCell (p := ⟨b, 2, none⟩) Z V).setCell (p := ⟨b, 3, none⟩) Z U).setCell (p := ⟨b, 4, none⟩) Z S
theorem bnE (w : World) (Z Y : Value) (t n : Nat) (X : w.heap.size = n) : BoxN (w.alloc (.cells #[Z, Y] t)) n t [Z, Y] := BoxN.new _ _ _ _ X
def LvOut (S : List Seg) (r : Value) : Prop := ∃ (j : Int) (a0 a1 b0 b1 : ByteArray) (b : Bool), r = .tuple #[.agg #[.int .i64 j, .string a0, .string a1, .string b0, .string b1], .bool b] /\ (b = false -> S = []) /\ (b = true -> ∃ s, S = [s] /\ s.1 = j /\ RS s.2.1.1 = a0 /\ RS s.2.1.2 = a1 /\ RS s.2.2.1 = b0 /\ RS s.2.2.2 = b1)
theorem lay (w : World) (vp vt vf : Value) (P : List PtQ) (T : List Tri) (k : Nat) (F : List Rat) (h : FieldIn w vp vt vf P T k F) (t : Nat) (hA : t < T.length) (z : Rat) (m : Nat) (hz : Sz m z) (zY : 6 * k + 3 * m + 6 <= 200) (hg : Good w) :
 Calls Tryz.prog 16 #[.agg #[vp, vt], vf, .int .i64 (t : Int), .string (RS z)] w (Ret (fun r _ => LvOut (segTo P T F z t (triI T t) (partT P F z (triI T t)) (partT P F z (triI T t)).length) r) w) := by
 have HH := hid h;have xu := h.m.kpos;obtain ⟨tr, zm⟩ := zex (triI T t);have z3 : tr = T[t] := zm.trans (tIn T t hA);have ho : tr ∈ T := by rw [z3]; exact List.getElem_mem hA
 have zd := aQp h.m ho;have hJ : areaQ (ptI P tr.1) (ptI P tr.2.1) (ptI P tr.2.2) ≠ 0 := fun e => by rw [e] at zd; exact absurd zd (by decide)
 have zl : ∀ x ∈ idxOf tr, SzP k (ptI P x) /\ Sz k (hI F x) := fun x hx => by
  obtain ⟨h0, E⟩ := h.m.idx tr ho x hx;obtain ⟨q, rfl⟩ : ∃ q : Nat, x = (q : Int) := ⟨x.toNat, by omega⟩;rw [pIn P q (by omega), he0 F q (by have := h.fl; omega)];exact ⟨h.m.sz _ (List.getElem_mem _), h.fs _ (List.getElem_mem _)⟩
 have yp : ∀ c ∈ partT P F z tr, SzP 200 c.1 := fun c hc => by
  have := cLS (c0 := corP P F tr.1) (c1 := corP P F tr.2.1) (c2 := corP P F tr.2.2) (zl _ (by simp [idxOf])) (zl _ (by simp [idxOf])) (zl _ (by simp [idxOf])) hz c hc;exact ⟨this.1.mono zY, this.2.mono zY⟩
 have zI : Hid (∀ c ∈ partT P F z tr, ∀ w', FieldIn w' vp vt vf P T k F -> Good w' -> Calls Tryz.prog 54 #[.agg #[vp, vt], vf, .int .i64 (t : Int), .agg #[.string (RS c.1.1), .string (RS c.1.2)]] w' (Ret (fun r _ => r = .string (RS c.2)) w')) := fun c hc w' h' hg' => by
  have E := ll0 w' vp vt vf P T k F h' t hA tr z3 c.1 200 (by omega) (yp c hc) (by omega) hg';rw [lTe hJ, <- ppe hJ c hc] at E;exact E
 have zJ : Hid (∀ w', FieldIn w' vp vt vf P T k F -> Good w' -> _) := fun w' h' hg' => l1l w' vp vt vf P T k F h' t hA tr z3 z m hz (by omega) hg'
 have ya : Hid (∀ j, j < T.length -> ∀ w', FieldIn w' vp vt vf P T k F -> Good w' -> _) := fun j hj w' h' hg' => lNa w' vp vt vf P T k F h' j hj z m hz (by omega) hg'
 have yR : Hid (∀ w', RdP w' vp (strP P) -> RdT w' vt T -> Good w' -> _) := fun w' hp ht hg' => nay w' vp vt P T k hp ht h.m t hA tr z3 hg';have yU := hid (fun a b k j hk hj => sat (P := P) (tr := tr) zd a b (k := k) (j := j) hk hj);have zF : Hid (∀ q : Nat, q < 3 -> ∃ j : Nat, idK tr q = (j : Int) /\ j < P.length) := fun q hq => by
  have hx : idK tr q ∈ idxOf tr := by
   rcases (by omega : q = 0 \/ q = 1 \/ q = 2) with rfl | rfl | rfl <;> simp [idK, idxOf]
  obtain ⟨h0, E⟩ := h.m.idx tr ho _ hx;exact ⟨(idK tr q).toNat, by omega, by omega⟩
 have yS : Hid (∀ q : Int, 0 <= nbT T tr q -> ∃ j : Nat, nbT T tr q = (j : Int) /\ j < T.length) := fun q hq => nTl hq;have x6 : 0 < P.length := by obtain ⟨j, -, hj⟩ := zF.out 0 (by omega); omega
 have xq := h.m.plen;have xr := h.m.tlen;obtain ⟨G, op, cp, rfl, hP, yC⟩ := RdP.cells h.p x6;obtain ⟨bt, ot, ct, rfl, zU, yH⟩ := RdT.cells h.t (by omega);obtain ⟨pf, cf, x5, -, -, -⟩ := h.f.open;subst x5;have y9 := hid yC;have yg : Hid (∀ q : Nat, q < 3 -> w.cell? ⟨bt, ot + t * 3 + q, none⟩ = some (.int .i64 (idK tr q))) := fun q hq => by
  obtain ⟨e0, e1, e2⟩ := yH t hA;rw [<- zm] at e0 e1 e2;rcases (by omega : q = 0 \/ q = 1 \/ q = 2) with rfl | rfl | rfl
  ·exact e0
  ·exact e1
  ·exact e2
 rw [<- zm];obtain ⟨X, J⟩ : ∃ l, l = partT P F z tr := ⟨_, rfl⟩;have zK := hid J;have yQ : Hid (X.length <= 6) := by rw [J]; exact cLl _ _ _ _
 have yX : Hid (∀ n : Nat, (∀ i, i < X.length -> levI X z ((n + i) % X.length) = false) -> segTo P T F z t tr X X.length = []) := fun n hn => snl hn;have yY : Hid (∀ j, j < X.length -> levI X z j = true -> segTo P T F z t tr X X.length = segA P T F z t tr X j) := by rw [J]; exact fun j hj hl => psg hj hl
 rw [<- J] at zI ⊢;obtain ⟨sz, z2⟩ : ∃ s, s = RS z := ⟨_, rfl⟩;have yi := hid z2;rw [<- z2] at zJ ya ⊢;have xw : (t : Int) < (T.length : Int) := by omega
 clear h hz zY zl yp zd hJ ho z3 zm J z2 yC yH;go_enter Tryz.func16, Tryz.ntmps16;go_wp2_with fail;obtain ⟨W, hW⟩ := zex ((w.alloc (.cells #[.slice (some ⟨G, op, none⟩) P.length cp, .slice (some ⟨bt, ot, none⟩) T.length ct] 35)).alloc (.cells #[.int .i64 0, .string ⟨#[]⟩, .string ⟨#[]⟩, .string ⟨#[]⟩, .string ⟨#[]⟩] 52));have hB : Below w.heap.size w W := by rw [hW]; exact zal2 _ _ _
 have b8 : BoxN W (w.heap.size + 1) 52 [.int .i64 0, .string ⟨#[]⟩, .string ⟨#[]⟩, .string ⟨#[]⟩, .string ⟨#[]⟩] := by rw [hW]; exact BoxN.new _ _ _ _ (by simp)
 have bm : BoxN W w.heap.size 35 [.slice (some ⟨G, op, none⟩) P.length cp, .slice (some ⟨bt, ot, none⟩) T.length ct] := by
  rw [hW];have E := BoxN.new w #[.slice (some ⟨G, op, none⟩) P.length cp, .slice (some ⟨bt, ot, none⟩) T.length ct] 35 _ rfl;exact E.below (zal _ _) E.lt
 rw [<- hW];clear hW;refine (zJ.out W (HH.out.below hB) (hg.below hB)).mono ?_;rintro e w1 ⟨xl, rfl, hd, zh⟩;have hv := zbt hB zh;have h5 := bm.below zh bm.lt;have hs := b8.below zh b8.lt;rw [<- zK.out] at hd;have HU : ∃ (y4 : Option Addr) (N yk n : Nat), xl = .slice y4 N yk /\ N = X.length /\ ∀ i, i < N -> ∃ g, y4 = some ⟨g, 0, none⟩ /\ g < w1.heap.size /\ w1.cell? ⟨g, i * 2, none⟩ = some (.string (RS (corI X ((n + i) % N)).1.1)) /\ w1.cell? ⟨g, i * 2 + 1, none⟩ = some (.string (RS (corI X ((n + i) % N)).1.2)) := by
  rcases hd with ⟨E, rfl⟩ | ⟨E, n, h2, -, h3⟩
  ·exact ⟨none, 0, 0, 0, rfl, by rw [E]; rfl, fun i hi => by omega⟩
  ·have zA : (begL (X.map (·.1)) n).length = X.length := by rw [bLl _ n (by rw [List.length_map]; omega), List.length_map]
   obtain ⟨g, cap, rfl, -, -, -, he, yE⟩ := h3.row (List.ne_nil_of_length_pos (by omega));refine ⟨some ⟨g, 0, none⟩, _, cap, n, rfl, zA, fun i hi => ?_⟩;rw [zA] at hi ⊢;have zj : (n + i) % X.length < X.length := Nat.mod_lt _ (by omega);have hg := bLg (l := X.map (·.1)) (n := n) (i := i) (by rw [List.length_map]; exact h2) (by rw [List.length_map]; exact hi);rw [List.length_map, pIm X zj, pIn _ i (by omega)] at hg;obtain ⟨⟨c0, -⟩, c1, -⟩ := yE i _ (List.getElem?_eq_getElem (by omega));rw [hg] at c0 c1;exact ⟨g, rfl, he, c0, c1⟩
 obtain ⟨y4, N, yk, n, rfl, hN, zz⟩ := HU;have HC := hid zz;have HN := hid hN;have xp : N <= 6 := by rw [hN]; exact yQ.out
 clear hd zh hB bm b8 zz hN zJ;go_wp2_with fail;go_loopw [11] (fun t11 wr => ∃ i : Nat, t11 = .int .i64 i /\ i <= N /\ Hid (∀ j, j < i -> levI X z ((n + j) % N) = false) /\ Below w1.heap.size w1 wr) (fun t11 _ => N - (RowKit.intOf t11).toNat)
 case atStart => exact ⟨0, rfl, Nat.zero_le _, fun j hj => by omega, Below.refl _ _⟩
 case round =>
  obtain ⟨i, rfl, xt, zH, C⟩ := hrel;have yo := zbt hv C;have L := hs.below C hs.lt;have yZ := h5.below C h5.lt;rcases Nat.lt_or_ge i N with zj | zj
  ·have x7 : (i : Int) < (N : Int) := by omega
   obtain ⟨g, rfl, he, c0, c1⟩ := HC.out i zj;have yv : (i + 1) % N < N := Nat.mod_lt _ (by omega);obtain ⟨_, eg, _, e0, e1⟩ := HC.out _ yv;injection eg with eg
   injection eg with eg
   subst eg;have zk : (n + i) % X.length < X.length := Nat.mod_lt _ (by rw [<- HN.out]; omega);have zZ : ((n + i) % X.length + 1) % X.length < X.length := Nat.mod_lt _ (by rw [<- HN.out]; omega);have yy : (n + (i + 1) % N) % N = ((n + i) % X.length + 1) % X.length := by rw [mnt, HN.out]
   rw [yy] at e0 e1;rw [HN.out] at c0 c1;obtain ⟨I, y2⟩ : ∃ q, q = (n + i) % X.length := ⟨_, rfl⟩;have zf : levI X z I = (decide ((corI X I).2 = z) && decide ((corI X ((I + 1) % X.length)).2 = z)) := rfl;have zg : segA P T F z t tr X I = if keepB P T F z tr (corI X I) (corI X ((I + 1) % X.length)) then [((t : Int), (corI X I).1, (corI X ((I + 1) % X.length)).1)] else [] := rfl
   rw [<- y2] at c0 c1 e0 e1 zk zZ;have zu : Hid (levI X z I = true -> segTo P T F z t tr X X.length = segA P T F z t tr X I) := fun hl => yY.out I zk hl;have h4 := hid (zI.out (corI X I) (by rw [cIn _ _ zk]; exact List.getElem_mem _));have h9 := hid (zI.out (corI X ((I + 1) % X.length)) (by rw [cIn _ _ zZ]; exact List.getElem_mem _));obtain ⟨A, yl⟩ := zex (corI X I);obtain ⟨B, ym⟩ := zex (corI X ((I + 1) % X.length));rw [<- yl] at c0 c1 h4 zf zg;rw [<- ym] at e0 e1 h9 zf zg;have hF := hid zf;have yW := hid zg;have yb : Hid ((n + i) % N = I) := by unfold Hid; rw [y2, HN.out]
   have z5 : Hid ((RS A.2).toList = sz.toList ↔ A.2 = z) := by
    unfold Hid;rw [yi.out];exact ⟨fun h => RtL h, fun h => by rw [h]⟩
   have z6 : Hid ((RS B.2).toList = sz.toList ↔ B.2 = z) := by
    unfold Hid;rw [yi.out];exact ⟨fun h => RtL h, fun h => by rw [h]⟩
   replace c0 := (zcq C he c0 :);replace c1 := (zcq C he c1 :);replace e0 := (zcq C he e0 :);replace e1 := (zcq C he e1 :);obtain ⟨jn, hf⟩ : ∃ j, j = (i + 1) % N := ⟨_, rfl⟩;rw [<- hf] at e0 e1 yv;have z1 : ((i : Int) + 1).tmod (N : Int) = (jn : Int) := by
    rw [Int.tmod_eq_emod_of_nonneg (by omega), hf];push_cast; rfl
   have y3 : ((i : Int) + 1) % (N : Int) = (jn : Int) := by rw [hf]; push_cast; rfl
   have xm : (jn : Int) < (N : Int) := by omega
   have hY : g < wr.heap.size := Nat.lt_of_lt_of_le he C.size;obtain ⟨ks, yx⟩ : ∃ s, s = sideT P tr A.1 B.1 := ⟨_, rfl⟩;have zG := hid yx;clear yl ym yy y2 zf zg zk zZ hf yx;go_upto_region 6 with fail;obtain ⟨V, hV⟩ := zex (wr.alloc (.cells #[.string (RS B.1.1), .string (RS B.1.2)] 50));have hO : Below wr.heap.size wr V := by rw [hV]; exact zal _ _
   have bq : BoxN V wr.heap.size 50 [.string (RS B.1.1), .string (RS B.1.2)] := by rw [hV]; exact BoxN.new _ _ _ _ rfl
   rw [<- hV];have hS := zbt C hO;have zP := zbt hv hS;have zb := h5.below hS h5.lt;replace c0 := (zcq hO hY c0 :);replace c1 := (zcq hO hY c1 :);have m0 := zb.cell 0 rfl;have m1 := zb.cell 1 rfl;have k0 := bq.cell 0 rfl;have k1 := bq.cell 1 rfl;have lm := zb.lt;have lq := bq.lt;have hX : g < V.heap.size := Nat.lt_of_lt_of_le hY hO.size;have d : Good V.drew := (hg.below zP).drewN 1;have h8 := hid (HH.out.below (zP.trans ((bdN V 1).mono zP.size)));obtain ⟨ax, zQ⟩ : ∃ s, s = RS A.1.1 := ⟨_, rfl⟩;obtain ⟨ay, zR⟩ : ∃ s, s = RS A.1.2 := ⟨_, rfl⟩;obtain ⟨bx, zV⟩ : ∃ s, s = RS B.1.1 := ⟨_, rfl⟩;obtain ⟨M, zW⟩ : ∃ s, s = RS B.1.2 := ⟨_, rfl⟩;obtain ⟨az, yq⟩ : ∃ s, s = RS A.2 := ⟨_, rfl⟩;obtain ⟨bz, hU⟩ : ∃ s, s = RS B.2 := ⟨_, rfl⟩;have yh : Hid (RS A.1.1 = ax /\ RS A.1.2 = ay /\ RS B.1.1 = bx /\ RS B.1.2 = M) := ⟨zQ.symm, zR.symm, zV.symm, zW.symm⟩;rw [<- zQ] at c0 h4;rw [<- zR] at c1 h4;rw [<- zV] at k0 h9 bq;rw [<- zW] at k1 h9 bq;rw [<- yq] at h4 z5;rw [<- hU] at h9 z6;obtain ⟨bv, yt⟩ : ∃ b, b = !(levI X z I) := ⟨_, rfl⟩;have hr := hid yt;clear hV zQ zR zV zW yq hU e0 e1 z1 y3 yt yZ L yo;go_cut [56] (fun s56 wx => s56 = .bool bv /\ Below V.heap.size V wx)
   case first =>
    by_cases hAz : A.2 = z
    ·have yF := z5.out.2 hAz
     have zt : Hid (∀ w', Below V.drew.heap.size V.drew w' -> FieldIn w' (.slice (some ⟨G, op, none⟩) P.length cp) (.slice (some ⟨bt, ot, none⟩) T.length ct) (.slice pf F.length cf) P T k F) := fun w' hb => h8.out.below hb;by_cases hBz : B.2 = z
     ·have yG := z6.out.2 hBz
      have HD : Hid (bv = false) := by unfold Hid; rw [hr.out, hF.out, decide_eq_true hAz, decide_eq_true hBz]; rfl
      clear hAz hBz;go_region_held3 (fun w' => w'.cell? ⟨w.heap.size, 0, none⟩ = some (.slice (some ⟨G, op, none⟩) P.length cp) /\ w'.cell? ⟨w.heap.size, 1, none⟩ = some (.slice (some ⟨bt, ot, none⟩) T.length ct) /\ w'.cell? ⟨g, i * 2, none⟩ = some (.string ax) /\ w'.cell? ⟨g, i * 2 + 1, none⟩ = some (.string ay) /\ w'.cell? ⟨wr.heap.size, 0, none⟩ = some (.string bx) /\ w'.cell? ⟨wr.heap.size, 1, none⟩ = some (.string M))
       (first | exact ⟨m0, m1, c0, c1, k0, k1⟩ | exact ⟨p_1_0, p_1_1, p_1_2, p_1_3, p_1_4, p_1_5⟩ | exact ⟨p_2_0, p_2_1, p_2_2, p_2_3, p_2_4, p_2_5⟩)
       (first
       | (go_at_call 54; refine (h9.out _ (zt.out _ U) hC).mono ?_; rintro e y5 ⟨_, rfl, rfl, O⟩
          have p_2_0 := zct O p_1_0;have p_2_1 := zct O p_1_1;have p_2_2 := zct O p_1_2;have p_2_3 := zct O p_1_3;have p_2_4 := zct O p_1_4;have p_2_5 := zct O p_1_5;have xk := O.size;have xj := hC.below O)
       | (go_at_call 54; refine (h4.out _ h8.out d).mono ?_; rintro e hE ⟨_, rfl, rfl, U⟩
          have p_1_0 := zct U m0;have p_1_1 := zct U m1;have p_1_2 := zct U c0;have p_1_3 := zct U c1;have p_1_4 := zct U k0;have p_1_5 := zct U k1;have yL : V.heap.size <= hE.heap.size := U.size;have hC := d.below U))
      have pB : Below V.heap.size V y5 := zbt (zbt (bdN V 1) U) O;go_wp2_with fail;go_meet;exact ⟨congrArg Value.bool HD.out.symm, pB⟩
     ·have yG := (not_congr z6.out).2 hBz
      have xb : (bz.toList == sz.toList) = false := by simpa using yG
      have HD : Hid (bv = true) := by unfold Hid; rw [hr.out, hF.out, decide_eq_true hAz, decide_eq_false hBz]; rfl
      clear hAz hBz;go_region_held3 (fun w' => w'.cell? ⟨w.heap.size, 0, none⟩ = some (.slice (some ⟨G, op, none⟩) P.length cp) /\ w'.cell? ⟨w.heap.size, 1, none⟩ = some (.slice (some ⟨bt, ot, none⟩) T.length ct) /\ w'.cell? ⟨g, i * 2, none⟩ = some (.string ax) /\ w'.cell? ⟨g, i * 2 + 1, none⟩ = some (.string ay) /\ w'.cell? ⟨wr.heap.size, 0, none⟩ = some (.string bx) /\ w'.cell? ⟨wr.heap.size, 1, none⟩ = some (.string M))
       (first | exact ⟨m0, m1, c0, c1, k0, k1⟩ | exact ⟨p_1_0, p_1_1, p_1_2, p_1_3, p_1_4, p_1_5⟩ | exact ⟨p_2_0, p_2_1, p_2_2, p_2_3, p_2_4, p_2_5⟩)
       (first
       | (go_at_call 54; refine (h9.out _ (zt.out _ U) hC).mono ?_; rintro e y5 ⟨_, rfl, rfl, O⟩
          have p_2_0 := zct O p_1_0;have p_2_1 := zct O p_1_1;have p_2_2 := zct O p_1_2;have p_2_3 := zct O p_1_3;have p_2_4 := zct O p_1_4;have p_2_5 := zct O p_1_5;have xk := O.size;have xj := hC.below O)
       | (go_at_call 54; refine (h4.out _ h8.out d).mono ?_; rintro e hE ⟨_, rfl, rfl, U⟩
          have p_1_0 := zct U m0;have p_1_1 := zct U m1;have p_1_2 := zct U c0;have p_1_3 := zct U c1;have p_1_4 := zct U k0;have p_1_5 := zct U k1;have yL : V.heap.size <= hE.heap.size := U.size;have hC := d.below U))
      have pB : Below V.heap.size V y5 := zbt (zbt (bdN V 1) U) O;go_wp2_with fail;go_meet;exact ⟨congrArg Value.bool HD.out.symm, pB⟩
    ·have yF := (not_congr z5.out).2 hAz
     have xb : (az.toList == sz.toList) = false := by simpa using yF
     have HD : Hid (bv = true) := by unfold Hid; rw [hr.out, hF.out, decide_eq_false hAz]; rfl
     have z7 : Hid (∀ w', Below V.heap.size V w' -> w'.cell? ⟨w.heap.size, 0, none⟩ = some (.slice (some ⟨G, op, none⟩) P.length cp) /\ w'.cell? ⟨w.heap.size, 1, none⟩ = some (.slice (some ⟨bt, ot, none⟩) T.length ct) /\ w'.cell? ⟨g, i * 2, none⟩ = some (.string ax) /\ w'.cell? ⟨g, i * 2 + 1, none⟩ = some (.string ay)) := fun w' hb =>
      ⟨(zcq hb lm m0 :), (zcq hb lm m1 :), (zcq hb hX c0 :), (zcq hb hX c1 :)⟩
     have q0 := bdN V 1;clear hAz;refine wp_region_held_drew (S := (fun w' => w'.cell? ⟨w.heap.size, 0, none⟩ = some (.slice (some ⟨G, op, none⟩) P.length cp) /\ w'.cell? ⟨w.heap.size, 1, none⟩ = some (.slice (some ⟨bt, ot, none⟩) T.length ct) /\ w'.cell? ⟨g, i * 2, none⟩ = some (.string ax) /\ w'.cell? ⟨g, i * 2 + 1, none⟩ = some (.string ay))) (by kernel_rfl) ?_ (fun hHeld => ?_)
     ·first | exact z7.out _ I | exact z7.out _ q0
     refine wpAnyH_take (i := 0) (oi := _) (v := ?_) rfl (by kernel_rfl) (by kernel_rfl) (by kernel_rfl) (fun _ _ _ h => h) (Or.inl ⟨by rfl, ?_⟩) (by assumption) ?_;rotate_left
     ·intro w Q; (try dsimp only at Q); first | (go_simp; done) | (go_simp; with_reducible rfl)
     try simp only [Act.put]
     refine wpAnyH_take (i := 1) (oi := _) (v := ?_) rfl (by kernel_rfl) (by kernel_rfl) (by kernel_rfl) (fun _ _ _ h => h) (Or.inl ⟨by rfl, ?_⟩) (by assumption) ?_;rotate_left
     ·intro w Q; (try dsimp only at Q); first | (go_simp; done) | (go_simp; with_reducible rfl)
     try simp only [Act.put]
     refine wpAnyH_take (i := 2) (oi := _) (v := ?_) rfl (by kernel_rfl) (by kernel_rfl) (by kernel_rfl) (fun _ _ _ h => h) (Or.inl ⟨by rfl, ?_⟩) (by assumption) ?_;rotate_left
     ·intro w Q; (try dsimp only at Q); first | (go_simp; done) | (go_simp; with_reducible rfl)
     try simp only [Act.put]
     refine wpAnyH_take (i := 3) (oi := _) (v := ?_) rfl (by kernel_rfl) (by kernel_rfl) (by kernel_rfl) (fun _ _ _ h => h) (Or.inl ⟨by rfl, ?_⟩) (by assumption) ?_;rotate_left
     ·intro w Q; (try dsimp only at Q); first | (go_simp; done) | (go_simp; with_reducible rfl)
     try simp only [Act.put]
     refine wpAnyH_take (i := 4) (oi := _) (v := ?_) rfl (by kernel_rfl) (by kernel_rfl) (by kernel_rfl) (fun _ _ _ h => h) (Or.inl ⟨by rfl, ?_⟩) (by assumption) ?_;rotate_left
     ·intro w Q; (try dsimp only at Q); first | (go_simp; done) | (go_simp; with_reducible rfl)
     try simp only [Act.put]
     refine wpAnyH_take (i := 5) (oi := _) (v := ?_) rfl (by kernel_rfl) (by kernel_rfl) (by kernel_rfl) (fun _ _ _ h => h) (Or.inl ⟨by rfl, ?_⟩) (by assumption) ?_;rotate_left
     ·intro w Q; (try dsimp only at Q); first | (go_simp; done) | (go_simp; with_reducible rfl)
     try simp only [Act.put]
     refine wpAnyH_take (i := 6) (oi := _) (v := ?_) rfl (by kernel_rfl) (by kernel_rfl) (by kernel_rfl) (fun _ _ _ h => h) (Or.inl ⟨by rfl, ?_⟩) (by assumption) ?_;rotate_left
     ·intro w Q; (try dsimp only at Q); first | (go_simp; done) | (go_simp; with_reducible rfl)
     try simp only [Act.put]
     refine wpAnyH_take (i := 8) (oi := _) (v := ?_) rfl (by kernel_rfl) (by kernel_rfl) (by kernel_rfl) (fun _ _ _ h => h) (Or.inl ⟨by rfl, ?_⟩) (by assumption) ?_;rotate_left
     ·intro w Q; (try dsimp only at Q); first | (go_simp; done) | (go_simp; with_reducible rfl)
     try simp only [Act.put]
     refine wpAnyH_ready (rs := [7]) (by kernel_rfl) (by simp) ?_;refine AllReadyH.cons (o := _) rfl (fun K hK => ?_) AllReadyH.nil;go_simp
     (refine (h4.out _ h8.out d).mono ?_; rintro e y1 ⟨_, rfl, rfl, xh⟩; have I := zbt q0 xh)
     refine hK.out _ _ ?_ (fun hHeld => ?_)
     ·first | exact z7.out _ I | exact z7.out _ q0
     clear hK K;try simp only [Act.put]
     refine wpAnyH_take (i := 9) (oi := _) (v := ?_) rfl (by kernel_rfl) (by kernel_rfl) (by kernel_rfl) (fun _ _ _ h => h) (Or.inl ⟨by rfl, ?_⟩) (by assumption) ?_;rotate_left
     ·intro w Q; (try dsimp only at Q); first | (go_simp; done) | (go_simp; with_reducible rfl)
     try simp only [Act.put]
     refine wpAnyH_take (i := 10) (oi := _) (v := ?_) rfl (by kernel_rfl) (by kernel_rfl) (by kernel_rfl) (fun _ _ _ h => h) (Or.inl ⟨by rfl, ?_⟩) (by assumption) ?_;rotate_left
     ·intro w Q; (try dsimp only at Q); first | (go_simp; done) | (go_simp; with_reducible rfl)
     try simp only [Act.put]
     refine wpAnyH_take (i := 11) (oi := _) (v := undef) rfl (by kernel_rfl) (by kernel_rfl) (by kernel_rfl) (fun _ _ _ h => h) (Or.inr ⟨by rfl, rfl⟩) (by assumption) ?_;try simp only [Act.put]
     refine wpAnyH_take (i := 12) (oi := _) (v := undef) rfl (by kernel_rfl) (by kernel_rfl) (by kernel_rfl) (fun _ _ _ h => h) (Or.inr ⟨by rfl, rfl⟩) (by assumption) ?_;try simp only [Act.put]
     refine wpAnyH_take (i := 13) (oi := _) (v := undef) rfl (by kernel_rfl) (by kernel_rfl) (by kernel_rfl) (fun _ _ _ h => h) (Or.inr ⟨by rfl, rfl⟩) (by assumption) ?_;try simp only [Act.put]
     refine wpAnyH_take (i := 14) (oi := _) (v := undef) rfl (by kernel_rfl) (by kernel_rfl) (by kernel_rfl) (fun _ _ _ h => h) (Or.inr ⟨by rfl, rfl⟩) (by assumption) ?_;try simp only [Act.put]
     refine wpAnyH_take (i := 16) (oi := _) (v := undef) rfl (by kernel_rfl) (by kernel_rfl) (by kernel_rfl) (fun _ _ _ h => h) (Or.inr ⟨by rfl, rfl⟩) (by assumption) ?_;try simp only [Act.put]
     refine wpAnyH_ready (rs := [15]) (by kernel_rfl) (by simp) ?_;refine AllReadyH.cons (o := _) rfl (fun K hK => ?_) AllReadyH.nil;go_simp;refine hK.out _ _ (by assumption) (fun hHeld => ?_);clear hK K;try simp only [Act.put]
     refine wpAnyH_take (i := 17) (oi := _) (v := undef) rfl (by kernel_rfl) (by kernel_rfl) (by kernel_rfl) (fun _ _ _ h => h) (Or.inr ⟨by rfl, rfl⟩) (by assumption) ?_;try simp only [Act.put]
     refine wpAnyH_take (i := 18) (oi := _) (v := ?_) rfl (by kernel_rfl) (by kernel_rfl) (by kernel_rfl) (fun _ _ _ h => h) (Or.inl ⟨by rfl, ?_⟩) (by assumption) ?_;rotate_left
     ·intro w Q; (try dsimp only at Q); first | (go_simp; done) | (go_simp; with_reducible rfl)
     try simp only [Act.put]
     refine wpAnyH_done (by kernel_rfl) ?_ _;go_wp2_with fail;go_meet;exact ⟨congrArg Value.bool HD.out.symm, I⟩
   case rest =>
   obtain ⟨rfl, hw⟩ := hcut;obtain ⟨wa, xe⟩ : ∃ W : World, W = wc := ⟨_, rfl⟩;subst xe;have hR := zbt hS hw;have xo := zbt hv hR;have zc := bq.below hw bq.lt;replace c0 := (zcq hw hX c0 :);replace c1 := (zcq hw hX c1 :);clear k0 k1 m0 m1 d h8 hO zb bq h4 h9;cases bv;rotate_left
   ·have yP : Hid (∀ j, j < i + 1 -> levI X z ((n + j) % N) = false) := fun j hj => by
     rcases Nat.lt_or_ge j i with E | E
     ·exact zH.out j E
     ·obtain rfl : j = i := by omega
      rw [yb.out];have := hr.out;simpa using this.symm
    clear c0 c1;go_wp2_with fail;go_roundw
    case rel => exact ⟨i + 1, by go_num, by omega, yP, hR⟩
    case measure => simp [RowKit.intOf]; omega
   have y6 : Hid (levI X z I = true) := by
    have := hr.out;unfold Hid;cases h : levI X z I
    ·rw [h] at this; cases this
    ·rfl
   have zs : Hid (A.2 = z /\ B.2 = z) := by
    have := y6.out;rw [hF.out, Bool.and_eq_true, decide_eq_true_eq, decide_eq_true_eq] at this;exact this
   have yf : Hid (segTo P T F z t tr X X.length = if keepB P T F z tr A B then [((t : Int), A.1, B.1)] else []) := (zu.out y6.out).trans yW.out;have k0 := zc.cell 0 rfl;have k1 := zc.cell 1 rfl;have xy := zc.lt;have xs : g < wa.heap.size := Nat.lt_of_lt_of_le hX hw.size;clear hr hF zu z5 z6 yb zH;go_upto_region 7 with fail;go_region;obtain ⟨D, hD⟩ := zex ((wa.alloc (.cells #[.int .i64 (t : Int), .string ax, .string ay, .string bx, .string M] 52)).drew);have yr : Below wa.heap.size wa D := by rw [hD]; exact ((Below.refl _ _).alloc (Nat.le_refl _) _).trans ((bdN _ 1).mono (by simp))
   have bo : BoxN D wa.heap.size 52 [.int .i64 (t : Int), .string ax, .string ay, .string bx, .string M] := by
    rw [hD];have E := BoxN.new wa #[.int .i64 (t : Int), .string ax, .string ay, .string bx, .string M] 52 _ rfl;exact E.below (bdN _ 1) E.lt
   rw [<- hD];have hm := zbt hR yr;have ze := zbt hv hm;have zM := h5.below hm h5.lt;have m0 := zM.cell 0 rfl;have m1 := zM.cell 1 rfl;clear hD k0 k1 c0 c1 zc yr hw;go_wp2_with fail;refine (yR.out D (HH.out.below ze).p (HH.out.below ze).t (hg.below ze)).mono ?_;rintro e Y ⟨_, rfl, rfl, zS⟩;have zx := zbt hm zS;have zO := bo.below zS bo.lt;clear m0 m1 zM zS ze bo hm;go_upto_region 9 with fail;obtain ⟨Z, hZ⟩ := zex (Y.alloc (.cells #[.int .i64 (nbI T (sideK tr 0)), .int .i64 (nbI T (sideK tr 1)), .int .i64 (nbI T (sideK tr 2))] 95));have zT : Below Y.heap.size Y Z := by rw [hZ]; exact zal _ _
   have bn : BoxN Z Y.heap.size 95 [.int .i64 (nbI T (sideK tr 0)), .int .i64 (nbI T (sideK tr 1)), .int .i64 (nbI T (sideK tr 2))] := by rw [hZ]; exact BoxN.new _ _ _ _ rfl
   rw [<- hZ];have zy := zbt zx zT;have yj := zO.below zT zO.lt;clear hZ zT zO zx;go_wp2_with fail;go_loopw [16] (fun t16 wr => ∃ q : Nat, t16 = .int .i64 q /\ q <= 3 /\ Hid (∀ j, j < q -> rejB P T F z tr ks j = false) /\ Below Z.heap.size Z wr) (fun t16 _ => 3 - (RowKit.intOf t16).toNat)
   case atStart => exact ⟨0, rfl, by omega, fun j hj => by omega, Below.refl _ _⟩
   case round =>
    obtain ⟨q, rfl, xv, yc, zi⟩ := hrel;have hT := zbt zy zi;have H := zbt hv hT;have h6 := yj.below zi yj.lt;have zN := bn.below zi bn.lt;rcases Nat.lt_or_ge q 3 with hq | hq
    ·have xa : (q : Int) < 3 := by omega
     obtain ⟨x, hx, yI⟩ := zF.out q hq;have z0 : (q + 1) % 3 < 3 := Nat.mod_lt _ (by omega);obtain ⟨y, hy, yJ⟩ := zF.out _ z0;have ye : Hid ((ptI P (x : Int) = A.1 /\ ptI P (y : Int) = B.1) ↔ ks = (q : Int)) := by
      have := yU.out A.1 B.1 q _ hq rfl;rw [hx, hy, <- zG.out] at this;exact this
     have t0 := zcq H zU (yg.out q hq);have t1 := (H.cell (p := ⟨bt, ot + t * 3 + (q + 1) % 3, none⟩) zU).trans (yg.out _ z0);rw [hx] at t0;rw [hy] at t1;obtain ⟨x0, x1⟩ := y9.out x yI;obtain ⟨y0, y1⟩ := y9.out y yJ;replace x0 := (zcq H hP x0 :);replace x1 := (zcq H hP x1 :);replace y0 := (zcq H hP y0 :);replace y1 := (zcq H hP y1 :);obtain ⟨jc, zX⟩ : ∃ j, j = (q + 1) % 3 := ⟨_, rfl⟩;rw [<- zX] at t1 z0;have z1 : ((q : Int) + 1).tmod 3 = (jc : Int) := by
      rw [Int.tmod_eq_emod_of_nonneg (by omega), zX];push_cast; rfl
     have xc : IntKind.i64.wrap ((q : Int) + 1) = (q : Int) + 1 := IntWalk.i64_in _ (by omega);have xd : IntKind.i64.wrap (jc : Int) = (jc : Int) := IntWalk.i64_in _ (by omega);have x9 : (jc : Int) < 3 := by omega
     have xg : (x : Int) < (P.length : Int) := by omega
     have xi : (y : Int) < (P.length : Int) := by omega
     have hu := h5.below hT h5.lt;have m0 := hu.cell 0 rfl;have m1 := hu.cell 1 rfl;have lm := hu.lt;have zn : G < wr.heap.size := Nat.lt_of_lt_of_le hP H.size;have yK : bt < wr.heap.size := Nat.lt_of_lt_of_le zU H.size;have z8 := hid (tps (ptI P (x : Int)) A.1);have z9 := hid (tps (ptI P (y : Int)) B.1);have z4 := yh.out;rw [z4.1, z4.2.1] at z8;rw [z4.2.2.1, z4.2.2.2] at z9;generalize ptI P (x : Int) = px at *;generalize ptI P (y : Int) = py at *;obtain ⟨zo, zB⟩ : ∃ s, s = RS px.1 := ⟨_, rfl⟩;obtain ⟨zp, zC⟩ : ∃ s, s = RS px.2 := ⟨_, rfl⟩;obtain ⟨zq, zD⟩ : ∃ s, s = RS py.1 := ⟨_, rfl⟩;obtain ⟨zr, zE⟩ : ∃ s, s = RS py.2 := ⟨_, rfl⟩;rw [<- zB] at x0 z8;rw [<- zC] at x1 z8;rw [<- zD] at y0 z9;rw [<- zE] at y1 z9;clear hx hy yI yJ zX z4 zB zC zD zE;go_upto_region 14 with fail;go_cut [17, 18] (fun s17 s18 wx => ∃ u v : Nat, s17 = .pointer (some ⟨u, 0, none⟩) /\ s18 = .pointer (some ⟨v, 0, none⟩) /\ BoxN wx u 50 [.string zo, .string zp] /\ BoxN wx v 50 [.string zq, .string zr] /\ Below wr.heap.size wr wx)
     case first =>
      have q0 : Below wr.heap.size wr wr.drew := bdN wr 1;have HS : Hid (∀ w', Below wr.heap.size wr w' -> w'.cell? ⟨w.heap.size, 0, none⟩ = some (.slice (some ⟨G, op, none⟩) P.length cp) /\ w'.cell? ⟨w.heap.size, 1, none⟩ = some (.slice (some ⟨bt, ot, none⟩) T.length ct) /\ w'.cell? ⟨bt, ot + t * 3 + q, none⟩ = some (.int .i64 (x : Int)) /\ w'.cell? ⟨bt, ot + t * 3 + jc, none⟩ = some (.int .i64 (y : Int)) /\ w'.cell? ⟨G, op + x * 2, none⟩ = some (.string zo) /\ w'.cell? ⟨G, op + x * 2 + 1, none⟩ = some (.string zp) /\ w'.cell? ⟨G, op + y * 2, none⟩ = some (.string zq) /\ w'.cell? ⟨G, op + y * 2 + 1, none⟩ = some (.string zr)) := fun w' hb =>
       ⟨(zcq hb lm m0 :), (zcq hb lm m1 :), (zcq hb yK t0 :), (zcq hb yK t1 :), (zcq hb zn x0 :), (zcq hb zn x1 :), (zcq hb zn y0 :), (zcq hb zn y1 :)⟩
      go_region_held3 (fun w' => w'.cell? ⟨w.heap.size, 0, none⟩ = some (.slice (some ⟨G, op, none⟩) P.length cp) /\ w'.cell? ⟨w.heap.size, 1, none⟩ = some (.slice (some ⟨bt, ot, none⟩) T.length ct) /\ w'.cell? ⟨bt, ot + t * 3 + q, none⟩ = some (.int .i64 (x : Int)) /\ w'.cell? ⟨bt, ot + t * 3 + jc, none⟩ = some (.int .i64 (y : Int)) /\ w'.cell? ⟨G, op + x * 2, none⟩ = some (.string zo) /\ w'.cell? ⟨G, op + x * 2 + 1, none⟩ = some (.string zp) /\ w'.cell? ⟨G, op + y * 2, none⟩ = some (.string zq) /\ w'.cell? ⟨G, op + y * 2 + 1, none⟩ = some (.string zr))
       ((refine HS.out _ ?_; repeat (first | with_reducible exact q0 | with_reducible exact Below.refl _ _ | with_reducible refine Below.drew ?_ | ((with_reducible refine Below.setCell ?_ ?_ _); rotate_left; (first | omega | (simp <;> omega))) | ((with_reducible refine Below.alloc ?_ ?_ _); rotate_left; (first | exact Nat.le_refl _ | omega | (simp <;> omega))))))
       (fail)
      all_goals (go_wp2_with fail)
      all_goals go_meet
      all_goals
       first
       | (refine ⟨_, _, rfl, rfl, ?_, ?_, ?_⟩
          ·exact BoxN.drew (BoxN.alloc (bnE _ _ _ _ _ rfl) _)
          ·exact BoxN.drew (bnE _ _ _ _ _ (by simp))
          ·exact (((Below.refl _ _).alloc (Nat.le_refl _) _).alloc (by simp) _).trans ((bdN _ 1).mono (by simp; omega)))
       | (refine ⟨_, _, rfl, rfl, ?_, ?_, ?_⟩
          ·exact BoxN.drew (bnE _ _ _ _ _ (by simp))
          ·exact BoxN.drew (BoxN.alloc (bnE _ _ _ _ _ rfl) _)
          ·exact (((Below.refl _ _).alloc (Nat.le_refl _) _).alloc (by simp) _).trans ((bdN _ 1).mono (by simp; omega)))
     case rest =>
     obtain ⟨u, v, rfl, rfl, bu, bv, h7⟩ := hcut;obtain ⟨wb, xf⟩ : ∃ W : World, W = wc := ⟨_, rfl⟩;subst xf;have ys := zbt zi h7;have hM := zbt H h7;have ha := h6.below h7 h6.lt;have hG := zN.below h7 zN.lt;have za := hu.below h7 hu.lt;clear t0 t1 x0 x1 y0 y1 m0 m1 z1 xc xd x9 xg xi h6 zN hu;have u0 := bu.cell 0 rfl;have u1 := bu.cell 1 rfl;have v0 := bv.cell 0 rfl;have v1 := bv.cell 1 rfl;have o1 := ha.cell 1 rfl;have o2 := ha.cell 2 rfl;have o3 := ha.cell 3 rfl;have o4 := ha.cell 4 rfl;have zL : Hid (rejB P T F z tr ks q = (decide (ks = (q : Int)) && (decide (nbT T tr (q : Int) < 0) || !(partT P F z (triI T (nbT T tr (q : Int)))).isEmpty))) := rfl;have nq : wb.cell? ⟨Y.heap.size, q, none⟩ = some (.int .i64 (nbT T tr (q : Int))) := by
      rcases (by omega : q = 0 \/ q = 1 \/ q = 2) with rfl | rfl | rfl
      ·exact hG.cell 0 rfl
      ·exact hG.cell 1 rfl
      ·exact hG.cell 2 rfl
     have y8 := hid (yS.out (q : Int));obtain ⟨nb, yz⟩ := zex (nbT T tr (q : Int));rw [<- yz] at zL nq y8;obtain ⟨rj, yD⟩ := zex (rejB P T F z tr ks q);have hh := hid yD;clear yz yD;go_upto_region 15 with fail;go_cut [127] (fun s127 wx => s127 = .bool rj /\ Below wb.heap.size wb wx)
     case first =>
      have yB : (¬ (px = A.1 /\ py = B.1)) -> rj = false := fun hne => by
       rw [hh.out, zL.out, decide_eq_false (fun h => hne (ye.out.2 h))];rfl
      have y7 := hid yB;clear yB;rcases z8.out with ⟨e, e1, e2⟩ | ⟨e, e1 | ⟨e1, e2⟩⟩
      ·rcases z9.out with ⟨f, f1, f2⟩ | ⟨f, f1 | ⟨f1, f2⟩⟩
       ·have yw := ye.out.1 ⟨e, f⟩
        have HJ : Hid (rj = (decide (nb < 0) || !(partT P F z (triI T nb)).isEmpty)) := by unfold Hid; rw [hh.out, zL.out, decide_eq_true yw, Bool.true_and]
        clear e f yw;by_cases hn0 : nb < 0
        ·have yA : decide (nb < 0) = true := decide_eq_true hn0
         have HD : Hid (rj = true) := by unfold Hid; rw [HJ.out, yA]; rfl
         go_quiet (fail);go_wp2_with fail;go_meet;exact ⟨congrArg Value.bool HD.out.symm, bdN _ _⟩
        ·obtain ⟨jn, hf, x8⟩ := y8.out (by omega)
         have HD : Hid (rj = !(partT P F z (triI T (jn : Int))).isEmpty) := by unfold Hid; rw [HJ.out, decide_eq_false hn0, Bool.false_or, hf]
         have yT := hid (ya.out jn x8);subst hf;have yA : decide ((jn : Int) < 0) = false := decide_eq_false hn0;have m0 := za.cell 0 rfl;have m1 := za.cell 1 rfl;have xx := za.lt;have lu := bu.lt;have lv := bv.lt;have lo := ha.lt;have ln := hG.lt;have d : Good wb.drew := (hg.below hM).drewN 1;have h8 := hid (HH.out.below (hM.trans ((bdN wb 1).mono hM.size)));have xn : (q : Int) < (3 : Int) := by omega
         go_region_held3 (fun w' => w'.cell? ⟨w.heap.size, 0, none⟩ = some (.slice (some ⟨G, op, none⟩) P.length cp) /\ w'.cell? ⟨w.heap.size, 1, none⟩ = some (.slice (some ⟨bt, ot, none⟩) T.length ct) /\ w'.cell? ⟨u, 0, none⟩ = some (.string zo) /\ w'.cell? ⟨u, 1, none⟩ = some (.string zp) /\ w'.cell? ⟨v, 0, none⟩ = some (.string zq) /\ w'.cell? ⟨v, 1, none⟩ = some (.string zr) /\ w'.cell? ⟨wa.heap.size, 1, none⟩ = some (.string ax) /\ w'.cell? ⟨wa.heap.size, 2, none⟩ = some (.string ay) /\ w'.cell? ⟨wa.heap.size, 3, none⟩ = some (.string bx) /\ w'.cell? ⟨wa.heap.size, 4, none⟩ = some (.string M) /\ w'.cell? ⟨Y.heap.size, q, none⟩ = some (.int .i64 (jn : Int)))
                    (first | exact ⟨m0, m1, u0, u1, v0, v1, o1, o2, o3, o4, nq⟩ | exact ⟨p_1_0, p_1_1, p_1_2, p_1_3, p_1_4, p_1_5, p_1_6, p_1_7, p_1_8, p_1_9, p_1_10⟩)
                    (first
                    | (go_at_call 15; refine (yT.out _ h8.out d).mono ?_; rintro e hE ⟨_, rfl, ⟨pn, nn, cn, rfl, yu⟩, U⟩
                       have p_1_0 := zct U m0;have p_1_1 := zct U m1;have p_1_2 := zct U u0;have p_1_3 := zct U u1;have p_1_4 := zct U v0;have p_1_5 := zct U v1;have p_1_6 := zct U o1;have p_1_7 := zct U o2;have p_1_8 := zct U o3;have p_1_9 := zct U o4;have p_1_10 := zct U nq;have yL : wb.heap.size <= hE.heap.size := U.size;have hC := d.below U;have yM := hid yu; clear yu))
         have pB : Below wb.heap.size wb hE := zbt (bdN wb 1) U;go_wp2_with fail;go_meet;exact ⟨congrArg Value.bool (yM.out.trans HD.out.symm), pB⟩
       all_goals
        have HD : Hid (rj = false) := y7.out fun h => f h.2;clear e f;go_quiet (fail);go_wp2_with fail;go_meet;exact ⟨congrArg Value.bool HD.out.symm, bdN _ _⟩
      all_goals
       have HD : Hid (rj = false) := y7.out fun h => e h.1;clear e;go_quiet (fail);go_wp2_with fail;go_meet;exact ⟨congrArg Value.bool HD.out.symm, bdN _ _⟩
     case rest =>
     obtain ⟨rfl, hU⟩ := hcut;have zv := zbt ys hU;have zw := zbt zy zv;have yn := zbt hv zw;have hH := ha.below hU ha.lt;clear u0 u1 v0 v1 o1 o2 o3 o4 nq bu bv hG za;cases rj
     ·have yd : Hid (∀ j, j < q + 1 -> rejB P T F z tr ks j = false) := fun j hj => by
       rcases Nat.lt_or_ge j q with E | E
       ·exact yc.out j E
       ·obtain rfl : j = q := by omega
        exact hh.out.symm
      go_wp2_with fail;go_roundw
      case rel => exact ⟨q + 1, by go_num, by omega, yd, zv⟩
      case measure => simp [RowKit.intOf]; omega
     ·have yN : Hid (segTo P T F z t tr X X.length = []) := by
       have hk := kno (A := A) (B := B) (P := P) (T := T) (F := F) (z := z) (tr := tr) (k := q) (by rw [<- zG.out]; exact hh.out.symm);unfold Hid;rw [yf.out, hk];rfl
      have R := hs.below zw hs.lt;have f0 := R.frozen 0;have f1 := R.frozen 1;have f2 := R.frozen 2;have f3 := R.frozen 3;have f4 := R.frozen 4;have d0 := R.cell 0 rfl;have d1 := R.cell 1 rfl;have d2 := R.cell 2 rfl;have d3 := R.cell 3 rfl;have d4 := R.cell 4 rfl;have o0 := hH.cell 0 rfl;have o1 := hH.cell 1 rfl;have o2 := hH.cell 2 rfl;have o3 := hH.cell 3 rfl;have o4 := hH.cell 4 rfl;go_wp2_with fail;have BF := R.set5 (.int .i64 (t : Int)) (.string ax) (.string ay) (.string bx) (.string M);have hL := bb0 (b := w.heap.size + 1) yn (by omega) (.int .i64 (t : Int)) (.string ax) (.string ay) (.string bx) (.string M);have g0 := BF.cell 0 rfl;have g1 := BF.cell 1 rfl;have g2 := BF.cell 2 rfl;have g3 := BF.cell 3 rfl;have g4 := BF.cell 4 rfl;exact bodyPost_ret (v := .tuple #[.agg #[.int .i64 (t : Int), .string ax, .string ay, .string bx, .string M], .bool false]) (by simp [results, Tryz.results16, go_sem, g0, g1, g2, g3, g4]) rfl ⟨_, rfl, ⟨_, _, _, _, _, _, rfl, fun _ => yN.out, fun h => (by cases h)⟩, hL⟩
    ·have xa : ¬ (q : Int) < 3 := by omega
     have yO : Hid (segTo P T F z t tr X X.length = [((t : Int), A.1, B.1)]) := by
      unfold Hid;rw [yf.out, if_pos (kys zs.out.1 zs.out.2 (fun j hj => by rw [<- zG.out]; exact yc.out j (by omega)))]
     have R := hs.below hT hs.lt;have f0 := R.frozen 0;have f1 := R.frozen 1;have f2 := R.frozen 2;have f3 := R.frozen 3;have f4 := R.frozen 4;have d0 := R.cell 0 rfl;have d1 := R.cell 1 rfl;have d2 := R.cell 2 rfl;have d3 := R.cell 3 rfl;have d4 := R.cell 4 rfl;have o0 := h6.cell 0 rfl;have o1 := h6.cell 1 rfl;have o2 := h6.cell 2 rfl;have o3 := h6.cell 3 rfl;have o4 := h6.cell 4 rfl;go_wp2_with fail;have BF := R.set5 (.int .i64 (t : Int)) (.string ax) (.string ay) (.string bx) (.string M);have hL := bb0 (b := w.heap.size + 1) H (by omega) (.int .i64 (t : Int)) (.string ax) (.string ay) (.string bx) (.string M);have g0 := BF.cell 0 rfl;have g1 := BF.cell 1 rfl;have g2 := BF.cell 2 rfl;have g3 := BF.cell 3 rfl;have g4 := BF.cell 4 rfl;obtain ⟨x1, x2, x3, x4⟩ := yh.out;exact bodyPost_ret (v := .tuple #[.agg #[.int .i64 (t : Int), .string ax, .string ay, .string bx, .string M], .bool true]) (by simp [results, Tryz.results16, go_sem, g0, g1, g2, g3, g4]) rfl ⟨_, rfl, ⟨_, _, _, _, _, _, rfl, fun h => (by cases h), fun _ => ⟨_, yO.out, rfl, x1, x2, x3, x4⟩⟩, hL⟩
  ·have x7 : ¬ (i : Int) < (N : Int) := by omega
   have yV : Hid (segTo P T F z t tr X X.length = []) := yX.out n (fun j hj => by rw [<- HN.out] at hj ⊢; exact zH.out j (by omega));have f0 := L.frozen 0;have f1 := L.frozen 1;have f2 := L.frozen 2;have f3 := L.frozen 3;have f4 := L.frozen 4;have d0 := L.cell 0 rfl;have d1 := L.cell 1 rfl;have d2 := L.cell 2 rfl;have d3 := L.cell 3 rfl;have d4 := L.cell 4 rfl;go_wp2_with fail;have BF := L.set5 (.int .i64 0) (.string ⟨#[]⟩) (.string ⟨#[]⟩) (.string ⟨#[]⟩) (.string ⟨#[]⟩);have hL := bb0 (b := w.heap.size + 1) yo (by omega) (.int .i64 0) (.string ⟨#[]⟩) (.string ⟨#[]⟩) (.string ⟨#[]⟩) (.string ⟨#[]⟩);have g0 := BF.cell 0 rfl;have g1 := BF.cell 1 rfl;have g2 := BF.cell 2 rfl;have g3 := BF.cell 3 rfl;have g4 := BF.cell 4 rfl;exact bodyPost_ret (v := .tuple #[.agg #[.int .i64 0, .string ⟨#[]⟩, .string ⟨#[]⟩, .string ⟨#[]⟩, .string ⟨#[]⟩], .bool false]) (by simp [results, Tryz.results16, go_sem, g0, g1, g2, g3, g4]) rfl ⟨_, rfl, ⟨_, _, _, _, _, _, rfl, fun _ => yV.out, fun h => by cases h⟩, hL⟩
theorem brt {x y : Bool} (h : y = x) : Value.bool x = Value.bool y := by rw [h]
theorem rc0 (s : ByteArray) (hs : s.size < 1000000000) (w : World) (E : Good w) :
 Calls Tryz.prog 14 #[.string s] w (Ret (fun v _ => v = .bool (rQQ s.data.toList)) w) := by
 obtain ⟨l, o⟩ := zex (s.data.toList);obtain ⟨A, hA⟩ := zex (fst47 l);obtain ⟨D, t⟩ := zex (snd47 l);have y : Hid (rQQ l = (rII A && (decide (indexByte l 47 < 0) || (rII D && fitB (valI A) (valI D))))) := by unfold Hid rQQ; rw [hA, t]
 have M : Hid (indexByte l 47 < 0 -> rII D = true) := fun h => by rw [t]; unfold snd47; rw [if_neg (by omega)]; decide +kernel
 have i := hid (pc0 s (by omega) w);rw [<- o, <- hA, <- t] at i;have R : Hid (∀ w, _) := fun w => iSa s w;rw [<- o] at R;have N : l.length = s.size := by rw [o, Array.length_toList]; rfl
 have n : (BS A).size <= 1000000000000 := by
  rw [Bse, hA]; unfold fst47; split
  ·rw [List.length_take]; omega
  ·omega
 have m : (BS D).size <= 1000000000000 := by
  rw [Bse, t]; unfold snd47; split
  ·rw [List.length_drop]; omega
  ·simp
 have J : Hid (∀ w, _) := fun w => rRa (BS A) n w;have I : Hid (∀ w, _) := fun w => rRa (BS D) m w;rw [Blt] at J I;rw [<- o];obtain ⟨iz, p⟩ := zex (indexByte l 47);rw [<- p] at y R M;clear o hA t n m N p;go_enter Tryz.func14, Tryz.ntmps14;go_wp2_with fail;refine (i.out.mono fun _ _ h => h.ret).mono ?_;rintro e w1 ⟨_, rfl, rfl, Z⟩;go_wp2_with fail;refine ((J.out w1).mono fun _ _ h => h.ret).mono ?_;rintro e w2 ⟨_, rfl, rfl, S⟩;have H := zbt Z S;clear Z S;rcases Bool.eq_false_or_eq_true (rII A) with Y | Y
 ·rw [Y]
  go_wp2_with fail;refine ((I.out w2).mono fun _ _ h => h.ret).mono ?_;rintro e w3 ⟨_, rfl, rfl, O⟩;have U := zbt H O;clear H O;rcases Bool.eq_false_or_eq_true (rII D) with X | X
  ·rw [X]
   have L : Hid (rQQ l = (decide (iz < 0) || fitB (valI A) (valI D))) := by unfold Hid; rw [y.out, Y, X]; rfl
   obtain ⟨a, c⟩ := zex (valI A);obtain ⟨b, hb⟩ := zex (valI D);obtain ⟨r, h0⟩ := rIv Y;obtain ⟨S, O⟩ := rIv X;rw [<- c, <- hb] at L;have eA : BS A = IS a := by rw [r, c]; rfl
   have eD : BS D = IS b := by rw [S, hb]; rfl
   rw [eA] at h0 ⊢;rw [eD] at O ⊢;clear c hb r S eA eD Y X i y J I M;by_cases N : iz < 0
   ·have V : Hid (rQQ l = true) := by unfold Hid; rw [L.out, decide_eq_true N]; rfl
    go_wp2_with fail;refine (R.out w3).mono ?_;rintro e w4 ⟨_, rfl, rfl, rfl⟩;go_wp2_with fail;go_ret;exact ⟨_, rfl, brt V.out, U⟩
   ·have K : Hid (rQQ l = fitB a b) := by unfold Hid; rw [L.out, decide_eq_false N]; rfl
    have C : Hid (∀ w, Good w -> Calls Tryz.prog 46 #[.string (IS b), .string ⟨#[49]⟩] w (Ret (fun v _ => v = .int .i64 (cmpZ b 1)) w)) := fun w E => by
     have h := cp0 b 1 (by omega) (by rw [Ioe]; decide) w E;rw [Ioe] at h; exact h
    have B := hid fun w E => gRa a b (by omega) (by omega) w E
    have x : Hid (1 < b -> cmpZ b 1 = 1) := fun h => cZg h;obtain ⟨g, G⟩ := zex ((Int.gcd a b : Nat) : Int);rw [<- G] at B;have k := Ie4 a;have h9 := Ia0 g;have j := hid G;clear G;go_wp2_with fail;refine (R.out w3).mono ?_;rintro e w4 ⟨_, rfl, rfl, rfl⟩;go_wp2_with fail;refine (C.out w3 (E.below U)).mono ?_;rintro e w4 ⟨_, rfl, rfl, q⟩;have Q := zbt U q;clear U q;by_cases Z : 1 < b
    ·rw [x.out Z]
     by_cases ha0 : a = 0
     ·have V : Hid (rQQ l = false) := by unfold Hid; rw [K.out]; unfold fitB; rw [decide_eq_true ha0]; simp
      rw [decide_eq_true ha0] at k;have f : ((IS a).toList != [48]) = false := by rw [bne, k]; rfl
      clear ha0 Z;go_wp2_with fail;go_ret;exact ⟨_, rfl, brt V.out, Q⟩
     ·rw [decide_eq_false ha0] at k
      have f : ((IS a).toList != [48]) = true := by rw [bne, k]; rfl
      have V : Hid (rQQ l = decide (g = 1)) := by
       unfold Hid; rw [K.out]; unfold fitB; rw [decide_eq_true Z, decide_eq_false ha0, j.out];show decide (Int.gcd a b = 1) = _;rw [Bool.eq_iff_iff, decide_eq_true_iff, decide_eq_true_iff]; omega
      clear ha0 Z;generalize decide (g = 1) = dd at *;go_wp2_with fail;refine (B.out w4 (E.below Q)).mono ?_;rintro e w5 ⟨_, rfl, rfl, h1⟩;have d := zbt Q h1;go_wp2_with fail;go_ret;exact ⟨_, rfl, brt V.out, d⟩
    ·have x : ∃ z, z <= 0 /\ Hid (cmpZ b 1 = z) := ⟨cmpZ b 1, by unfold cmpZ; rw [if_neg Z]; split <;> omega, rfl⟩
     obtain ⟨z, hz, x⟩ := x;have V : Hid (rQQ l = false) := by unfold Hid; rw [K.out]; unfold fitB; rw [decide_eq_false Z]; rfl
     rw [x.out];clear Z;go_wp2_with fail;go_ret;exact ⟨_, rfl, brt V.out, Q⟩
  ·have V : Hid (rQQ l = false) := by
    unfold Hid;rw [y.out, Y, X];by_cases h : iz < 0
    ·have := M.out h; rw [X] at this; cases this
    ·rw [decide_eq_false h]; rfl
   rw [X];go_wp2_with fail;go_ret;exact ⟨_, rfl, brt V.out, U⟩
 ·have V : Hid (rQQ l = false) := by unfold Hid; rw [y.out, Y]; rfl
  rw [Y];go_wp2_with fail;go_ret;exact ⟨_, rfl, brt V.out, H⟩
theorem fnr (w : World) (K J L : Value) (P : List PtQ) (T : List Tri) (k : Nat) (F : List Rat) (s : ByteArray) (h : FieldIn w K J L P T k F) (E : s.size < 1000000000) (O : rQQ s.data.toList = false) (N : Good w) :
 Calls Tryz.prog 27 #[.agg #[K, J], L, .string s] w (Ret (fun r _ => r = .int .i64 2) w) := by
 have I := hid h;have U : Hid (eNm (rQQ s.data.toList) = 2) := by unfold Hid; rw [O]; rfl
 obtain ⟨D, H, C, G, M, Q, rfl, rfl, rfl⟩ := h.open;clear h O;go_enter Tryz.func27, Tryz.ntmps27;go_wp2_with fail;obtain ⟨W, V⟩ := zex ((w.alloc (.cells #[.slice D P.length H, .slice C T.length G] 35)).alloc (.cells #[.slice M F.length Q] 38));have X : Below w.heap.size w W := by rw [V]; exact zal2 _ _ _
 have R : BoxN W (w.heap.size + 1) 38 [.slice M F.length Q] := by rw [V]; exact BoxN.new _ _ _ _ (by simp)
 rw [<- V];clear V;refine (cg0 (I.out.below X) _ (R.cell 0 rfl) (N.below X)).mono ?_;rintro e B ⟨_, rfl, rfl, Y⟩;have Z := zbt X Y;clear Y R X;go_wp2_with fail;refine (cQa s E _ (N.below Z)).mono ?_;rintro e A ⟨_, rfl, rfl, S⟩;rw [U.out];go_wp2_with fail;go_ret;exact ⟨_, rfl, rfl, (zbt Z S)⟩
theorem anr (w : World) (Y X Z : Value) (P : List PtQ) (T : List Tri) (k : Nat) (F : List Rat) (s : ByteArray) (h : FieldIn w Y X Z P T k F) (K : s.size < 1000000000) (O : rQQ s.data.toList = false) (Q : Good w) :
 Calls Tryz.prog 13 #[.agg #[Y, X], Z, .string s] w (Ret (fun r _ => r = .tuple #[.slice none 0 0, .int .i64 2]) w) := by
 have N := hid h;have V : Hid (∀ w', FieldIn w' Y X Z P T k F -> Good w' -> _) := fun w' h Q => fnr w' Y X Z P T k F s h K O Q;obtain ⟨J, M, I, L, G, H, rfl, rfl, rfl⟩ := h.open;clear h O;go_enter Tryz.func13, Tryz.ntmps13;go_wp2_with fail;obtain ⟨W, S⟩ := zex (w.alloc (.cells #[.slice J P.length M, .slice I T.length L] 35));have U : Below w.heap.size w W := by rw [S]; exact zal _ _
 rw [<- S];clear S;refine (V.out W (N.out.below U) (Q.below U)).mono ?_;rintro e E ⟨_, rfl, rfl, R⟩;go_wp2_with fail;go_ret2;exact ⟨_, rfl, rfl, (zbt U R)⟩
theorem lnr (w : World) (Y X Z : Value) (P : List PtQ) (T : List Tri) (k : Nat) (F : List Rat) (s : ByteArray) (h : FieldIn w Y X Z P T k F) (K : s.size < 1000000000) (O : rQQ s.data.toList = false) (Q : Good w) :
 Calls Tryz.prog 9 #[.agg #[Y, X], Z, .string s] w (Ret (fun r _ => r = .tuple #[.slice none 0 0, .int .i64 2]) w) := by
 have N := hid h;have V : Hid (∀ w', FieldIn w' Y X Z P T k F -> Good w' -> _) := fun w' h Q => fnr w' Y X Z P T k F s h K O Q;obtain ⟨J, M, I, L, G, H, rfl, rfl, rfl⟩ := h.open;clear h O;go_enter Tryz.func9, Tryz.ntmps9;go_wp2_with fail;obtain ⟨W, S⟩ := zex (w.alloc (.cells #[.slice J P.length M, .slice I T.length L] 35));have U : Below w.heap.size w W := by rw [S]; exact zal _ _
 rw [<- S];clear S;refine (V.out W (N.out.below U) (Q.below U)).mono ?_;rintro e E ⟨_, rfl, rfl, R⟩;go_wp2_with fail;go_ret2;exact ⟨_, rfl, rfl, (zbt U R)⟩
theorem e0s (w : World) (C B : Value) (l : List PtQ) (x : l.length <= 1000) (L : RdP w C (strP l)) (K : RdP w B (strP l)) :
 Calls Tryz.prog 17 #[C, B] w (Ret (fun r _ => r = .bool true) w) := by
 obtain ⟨n, D⟩ := zex (l.length);have V := hid (fun h0 : 0 < l.length => L.cells h0);have U := hid (fun h0 : 0 < l.length => K.cells h0);obtain ⟨m, c1, rfl, -, -, -⟩ := L.open;obtain ⟨k, c2, rfl, -, -, -⟩ := K.open;rw [sPl] at *;rw [<- D] at V U x ⊢;clear L K D;go_enter Tryz.func17, Tryz.ntmps17;go_wp2_with fail;go_loopw [5] (fun t5 wr => ∃ i : Nat, t5 = .int .i64 i /\ i <= n /\ Below w.heap.size w wr) (fun t5 _ => n - (RowKit.intOf t5).toNat)
 case atStart => exact ⟨0, rfl, Nat.zero_le _, Below.refl _ _⟩
 case round =>
  obtain ⟨i, rfl, z, Z⟩ := hrel;rcases Nat.lt_or_ge i n with Y | Y
  ·have y : (i : Int) < (n : Int) := by omega
   obtain ⟨b1, p, s, N, S, Q⟩ := V.out (by omega);obtain ⟨t, o, q, M, R, O⟩ := U.out (by omega);injection N with N _ _
   injection M with M _ _
   subst N;subst M;obtain ⟨I, H⟩ := Q i Y;obtain ⟨G, E⟩ := O i Y;replace I := (zcq Z S I :);replace H := (zcq Z S H :);replace G := (zcq Z R G :);replace E := (zcq Z R E :);generalize RS (ptI l (i : Int)).1 = s0 at *;generalize RS (ptI l (i : Int)).2 = s1 at *;clear Q O;go_upto_region 6 with fail;go_quiet (fail);obtain ⟨v, X⟩ := zex (wr.drewN nq);have J : Below w.heap.size w v := by rw [X]; exact Z.trans ((bdN wr nq).mono Z.size)
   rw [<- X];clear X I H G E;go_wp2_with fail;go_roundw
   case rel => exact ⟨i + 1, by go_num, by omega, J⟩
   case measure => simp [RowKit.intOf]; omega
  ·have A : ¬ (i : Int) < (n : Int) := by omega
   go_wp2_with fail;go_ret;exact ⟨_, rfl, rfl, Z⟩
theorem PartsV.kept {E : Nat} {w w' : World} {B B2 e2 s2 n2 : Nat} {v v2 : Value} {x2 : List Value} {L : List (Nat × List PtQ)} (h : PartsV E w B v L) (Y : w.ownsRow B2 e2 s2 v2 n2 x2) (S : E ≠ e2) (R : 50 ≠ e2) (V : w.grownBy w' v2.ownBlock) : PartsV E w' B v L := by
 obtain ⟨Q, U, Z, X⟩ := h;exact ⟨Q, U, World.ownsRow.kept Z V (oat Z Y S), fun j x u a b => World.ownsRow.kept (X j x u a b) V (oat (X j x u a b) Y R)⟩
theorem sRo {w : World} {base e : Nat} {v : Value} {l : List Seg} (h : w.ownsRow base e 5 v l.length (cGG l)) : ∃ p c, v = .slice p l.length c /\ (l ≠ [] -> ∃ g, p = some ⟨g, 0, none⟩ /\ g < w.heap.size /\
 ∀ (i : Nat) (X : i < l.length), w.cell? ⟨g, i * 5, none⟩ = some (.int .i64 l[i].1) /\ w.cell? ⟨g, i * 5 + 1, none⟩ = some (.string (RS l[i].2.1.1)) /\ w.cell? ⟨g, i * 5 + 2, none⟩ = some (.string (RS l[i].2.1.2)) /\ w.cell? ⟨g, i * 5 + 3, none⟩ = some (.string (RS l[i].2.2.1)) /\ w.cell? ⟨g, i * 5 + 4, none⟩ = some (.string (RS l[i].2.2.2))) := by
 rcases h.2 with ⟨R, Y⟩ | ⟨g, cap, V, rfl, _, S, _⟩
 ·exact ⟨none, 0, by rw [R, Y], fun hne => absurd (List.length_eq_zero_iff.1 Y) hne⟩
 ·refine ⟨_, cap, rfl, fun _ => ⟨g, rfl, (Array.getElem?_eq_some_iff.1 S).1, fun i X => ?_⟩⟩
  have U := World.ownsRow.cells h (g := g) rfl;have Z : ∀ j, (⟨g, 0, none⟩ : Addr).add j = ⟨g, j, none⟩ := fun j => by unfold Addr.add; split <;> simp_all
  have e := gEf cellG 5 (fun _ => rfl) l i;have key : ∀ (j : Nat) (hj : j < 5) (u : Value), (cellG l[i])[j]? = some u -> w.cell? ⟨g, i * 5 + j, none⟩ = some u := fun j hj u hu => by
   have := U (i * 5 + j) u (by unfold cGG; rw [e j hj, List.getElem?_eq_getElem X]; exact hu);rw [Z] at this;exact this
  exact ⟨key 0 (by omega) _ rfl, key 1 (by omega) _ rfl, key 2 (by omega) _ rfl, key 3 (by omega) _ rfl, key 4 (by omega) _ rfl⟩
theorem SegV.below {w w' : World} {b : Nat} {v : Value} {l : List Seg} (h : SegV w b v l) (Z : Below w.heap.size w w') : SegV w' b v l := WRA h Z
end Go.Proofs.YtbfcmipplhkkeaaGreatDoor
