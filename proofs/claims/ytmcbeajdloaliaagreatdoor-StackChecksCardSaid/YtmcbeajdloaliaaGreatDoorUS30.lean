import Derived.Test.YtmcbeajdloaliaaGreatDoorUS23
/- stack.Check of any texts. slices.Equal at texts and at fields slices.EqualFunc at fields rational.Abs klippelaw28.Make. klippelaw28.fits, flat. -/
set_option maxHeartbeats 8000000
set_option maxRecDepth 100000
namespace Go.Proofs.YtmcbeajdloaliaaGreatDoor
open Go.RowKit Go.Lib
theorem uBn {U : List ByteArray} {i : Nat} (Z : i < U.length) (h : nameQ U[i] = false) : uBd U i = 8 := by unfold uBd; rw [List.getElem?_eq_getElem Z]; simp [h]
theorem uBt {U : List ByteArray} {i : Nat} (Y : i < U.length) (h : nameQ U[i] = true) (Z : hasS (U.take i) U[i] = true) : uBd U i = 9 := by unfold uBd; rw [List.getElem?_eq_getElem Y]; simp [h, Z]
theorem uBo {U : List ByteArray} {i : Nat} (Y : i < U.length) (h : nameQ U[i] = true) (Z : hasS (U.take i) U[i] = false) : uBd U i = 0 := by unfold uBd; rw [List.getElem?_eq_getElem Y]; simp [h, Z]
theorem RdS.cells {w : World} {v : Value} {l : List ByteArray} (h : RdS w v l) (V : 0 < l.length) : ∃ b o c : Nat, v = .slice (some ⟨b, o, none⟩) l.length c /\ b < w.heap.size /\ l.length <= c /\ ∀ (i : Nat) (S : i < l.length), w.cell? ⟨b, o + i, none⟩ = some (.string l[i]) := by
 obtain ⟨p, c, rfl, Z, -, U⟩ := h.open;obtain ⟨b, o, rfl, Y, X⟩ := U (List.ne_nil_of_length_pos V);exact ⟨b, o, c, rfl, Y, Z, X⟩
theorem RdS.take {w : World} {p : Option Addr} {c : Nat} {l : List ByteArray} (h : RdS w (.slice p l.length c) l) (m : Nat) (Y : m <= l.length) : RdS w (.slice p m c) (l.take m) := by
 have Z := RdC.take h m Y;rw [<- List.map_take] at Z;unfold RdS;rw [List.length_take, Nat.min_eq_left Y];exact Z
theorem rSt {w : World} {v : Value} {l : List Rat} (h : RdS w v (l.map RS)) : RdQ w v l := by
 unfold RdS at h;rw [List.length_map, List.map_map] at h;unfold RdQ;exact h
theorem fTn (b : List ByteArray) (S : List (List ByteArray)) {i : Nat} (h : i < S.length) : fldT b S (i + 1) = S[i] := by unfold fldT; rw [List.getElem?_cons_succ, List.getElem?_eq_getElem h]; rfl
theorem fe0 (b : List ByteArray) (S : List (List ByteArray)) {i : Nat} (h : i <= S.length) : fldT b S i ∈ b :: S := by
 unfold fldT;rw [List.getElem?_eq_getElem (by simp; omega)];exact List.getElem_mem _
theorem dEm {P : List PtQ} {T : List Tri} {b U : List ByteArray} {S : List (List ByteArray)} (h : T = []) : depE P T b U S = 13 := by unfold depE; rw [if_pos h]
theorem dEb {P : List PtQ} {T : List Tri} {b U : List ByteArray} {S : List (List ByteArray)} (h : T ≠ []) (Z : errF P.length b ≠ 0) : depE P T b U S = errF P.length b := by unfold depE; rw [if_neg h, if_pos Z]
theorem dEr {P : List PtQ} {T : List Tri} {b U : List ByteArray} {S : List (List ByteArray)} (h : T ≠ []) (Z : errF P.length b = 0) : depE P T b U S = if U.length = 0 then 13 else if 60 < U.length then 4 else if fEE (uBd U) U.length ≠ 0 then fEE (uBd U) U.length else if S.length + 1 ≠ U.length then 5 else fEE (sBd P.length b S) S.length := by
 conv => lhs; unfold depE
 rw [if_neg h, if_neg (by rw [Z]; decide)]
theorem sa0 (w : World) (vp vt vb vu vs : Value) (P : List PtQ) (T : List Tri) (k : Nat) (b U : List ByteArray) (S : List (List ByteArray)) (h : DepT w vp vt vb vu vs P T k b U S) (hg : Good w) :
 Calls Tryz.prog 29 #[.agg #[vp, vt], .agg #[vb, vu, vs]] w (Ret (fun r _ => r = .int .i64 (depE P T b U S)) w) := by
 have K := hid h;obtain ⟨y, A, rfl, -, -, -⟩ := h.p.open;obtain ⟨v, z, rfl, -, -, -⟩ := h.t.open;obtain ⟨pb, cb, rfl, -, -, -⟩ := h.base.open;obtain ⟨pu, cu, rfl, z3, hN, -⟩ := h.unit.open;obtain ⟨ps, cs, rfl, z2, hL⟩ := h.surf.shape;unfold maxLen at hN hL;rw [sPl] at *;obtain ⟨V, B⟩ : ∃ r, r = depE P T b U S := ⟨_, rfl⟩;rw [<- B];have HR := hid B;clear B h;by_cases hT : T = []
 ·have N : Hid (V = 13) := by unfold Hid; rw [HR.out]; exact dEm hT
  have HC : Hid (∀ w', Below w.heap.size w w' -> Calls Tryz.prog 61 #[.agg #[.slice y P.length A, .slice v T.length z]] w' (Ret (fun r _ => r = .int .i64 13) w')) := fun w' hb => by
   have O := (K.out.below hb).t;rw [hT] at O;exact cey w' _ _ P (K.out.below hb).p (by rw [hT]; exact O)
  clear HR K hT;go_enter Tryz.func29, Tryz.ntmps29;go_wp2_with fail;refine zR (HC.out _ (((Below.refl _ _).alloc (Nat.le_refl _) _).alloc (by simp) _)) fun w1 hb1 => ?_;have E : Below w.heap.size w w1 := (((Below.refl _ _).alloc (Nat.le_refl _) _).alloc (by simp) _).trans (hb1.mono (by simp; omega));go_wp2_with fail;go_ret;exact ⟨_, rfl, congrArg (Value.int .i64) N.out.symm, E⟩
 ·have HM := hid (K.out.m hT)
  have HC : Hid (∀ w', Below w.heap.size w w' -> Good w' -> Calls Tryz.prog 61 #[.agg #[.slice y P.length A, .slice v T.length z]] w' (Ret (fun r _ => r = .int .i64 0) w')) := fun w' hb hg' =>
   ca0 w' _ _ P T k (K.out.below hb).p (K.out.below hb).t HM.out hg'
  have he : Hid (∀ F ∈ b :: S, ∀ p c, ∀ w', Below w.heap.size w w' -> Good w' -> RdS w' (.slice p F.length c) F -> Calls Tryz.prog 13 #[.agg #[.slice y P.length A, .slice v T.length z], .slice p F.length c] w' (Ret (fun r _ => r = .int .i64 (errF P.length F)) w')) := fun F hF p c w' hb hg' hr =>
   fay w' _ _ _ P T k F (K.out.below hb).p (K.out.below hb).t HM.out hr (K.out.ok F hF).1 (K.out.ok F hF).2 hg'
  have hs : Hid (∀ w', Below w.heap.size w w' -> Good w' -> Calls Tryz.prog 13 #[.agg #[.slice y P.length A, .slice v T.length z], .slice pb b.length cb] w' (Ret (fun r _ => r = .int .i64 (errF P.length b)) w')) := fun w' hb hg' => he.out b (by simp) pb cb w' hb hg' (K.out.below hb).base
  go_enter Tryz.func29, Tryz.ntmps29;go_wp2_with fail;obtain ⟨W, hW⟩ := zex ((w.alloc (.cells #[.slice y P.length A, .slice v T.length z] 41)).alloc (.cells #[.slice pb b.length cb, .slice pu U.length cu, .slice ps S.length cs] 45));have hB : Below w.heap.size w W := by rw [hW]; exact zal2 _ _ _
  have b2 : BoxN W (w.heap.size + 1) 45 [.slice pb b.length cb, .slice pu U.length cu, .slice ps S.length cs] := by rw [hW]; exact BoxN.new _ _ _ _ (by simp)
  have b1 : BoxN W w.heap.size 41 [.slice y P.length A, .slice v T.length z] := by
   rw [hW];have O := (BoxN.new w #[.slice y P.length A, .slice v T.length z] 41 _ rfl);exact O.below (zal _ _) O.lt
  rw [<- hW];clear hW;refine zR (HC.out W hB (hg.below hB)) fun w1 hb1 => ?_;have E := zbt hB hb1;replace b1 := b1.bl hb1;replace b2 := b2.bl hb1;obtain ⟨d, a⟩ := zk2 b1;obtain ⟨q, o, n⟩ := zk3 b2;clear hb1 hB;go_wp2_with fail;refine zR (hs.out w1 E (hg.below E)) fun w2 hb2 => ?_;have l := zbt E hb2;replace b1 := b1.bl hb2;replace b2 := b2.bl hb2;clear d a q o n hb2 E;obtain ⟨d, a⟩ := zk2 b1;obtain ⟨q, o, n⟩ := zk3 b2;by_cases hE : errF P.length b = 0
  ·have G : Hid (V = _) := HR.out.trans (dEr hT hE)
   have hx := hid hE;rw [hE];clear HR hE;by_cases hU0 : U.length = 0
   ·have N : Hid (V = 13) := by unfold Hid; rw [G.out, if_pos hU0]
    have hz : ((U.length : Int) == 0) = true := by rw [beq_iff_eq]; omega
    clear G;go_wp2_with fail;go_ret;exact ⟨_, rfl, congrArg (Value.int .i64) N.out.symm, l⟩
   have hz : ((U.length : Int) == 0) = false := by rw [beq_eq_false_iff_ne]; omega
   by_cases hU6 : 60 < U.length
   ·have N : Hid (V = 4) := by unfold Hid; rw [G.out, if_neg hU0, if_pos hU6]
    have hP : decide ((60 : Int) < (U.length : Int)) = true := decide_eq_true (by omega);clear G;go_wp2_with fail;go_ret;exact ⟨_, rfl, congrArg (Value.int .i64) N.out.symm, l⟩
   have hP : decide ((60 : Int) < (U.length : Int)) = false := decide_eq_false (by omega);have t : Hid (V = if fEE (uBd U) U.length ≠ 0 then fEE (uBd U) U.length else if S.length + 1 ≠ U.length then 5 else fEE (sBd P.length b S) S.length) := by unfold Hid; rw [G.out, if_neg hU0, if_neg hU6]
   clear G;go_wp2_with fail;go_loopw [39] (fun t39 wr => ∃ i : Nat, t39 = .int .i64 i /\ i <= U.length /\ Hid (∀ j, j < i -> uBd U j = 0) /\ Below w2.heap.size w2 wr) (fun t39 _ => U.length - (RowKit.intOf t39).toNat)
   case atStart => exact ⟨0, rfl, Nat.zero_le _, fun j h => absurd h (by omega), Below.refl _ _⟩
   case round =>
    obtain ⟨i, rfl, hi, C, M⟩ := hrel;have g := zbt l M;have c1 := b1.bl M;have c2 := b2.bl M;have e1 := c2.cell 1 rfl;have e2 := c2.cell 2 rfl;clear d a q o n;rcases Nat.lt_or_ge i U.length with Z | Z
    ·obtain ⟨bu, ou, hZ, h9, hC, z0, Y⟩ := K.out.unit.cells (by omega)
     injection h9 with hv1 hv2 hv3
     subst hv1 hv3;have x0 := zcq g hC (Y i Z);have HI : Hid (∀ w', Calls Tryz.prog 40 #[.string U[i]] w' (Ret (fun r _ => r = .bool (nameQ U[i])) w')) := fun w' => iNa _ _;have HS : Hid (∀ w', Below w.heap.size w w' -> Calls Tryz.prog 41 #[.slice (some ⟨bu, ou, none⟩) i cu, .string U[i]] w' (Ret (fun r _ => r = .bool (hasS (U.take i) U[i])) w')) := fun w' hb => cSa _ _ _ _ (RdS.take (K.out.below hb).unit i (by omega))
     have H8 : Hid (nameQ U[i] = false -> V = 8) := fun h => by
      have O := uBn Z h;have m : fEE (uBd U) U.length = 8 := by rw [fEa Z (by rw [O]; decide) C.out, O]
      rw [t.out, if_pos (by rw [m]; decide), m]
     have H9 : Hid (nameQ U[i] = true -> hasS (U.take i) U[i] = true -> V = 9) := fun h h' => by
      have O := uBt Z h h';have m : fEE (uBd U) U.length = 9 := by rw [fEa Z (by rw [O]; decide) C.out, O]
      rw [t.out, if_pos (by rw [m]; decide), m]
     have H0 : Hid (nameQ U[i] = true -> hasS (U.take i) U[i] = false -> ∀ j, j < i + 1 -> uBd U j = 0) := fun h h' j hj => by
      rcases (by omega : j < i \/ j = i) with O | rfl
      ·exact C.out j O
      ·exact uBo Z h h'
     have hG : (i : Int) < (U.length : Int) := by omega
     have z1 : (i : Int) <= (cu : Int) := by omega
     generalize nameQ U[i] = nb at *;generalize hasS (U.take i) U[i] = hb' at *;generalize U[i] = ui at *;clear Y;go_wp2_with fail;refine zR (HI.out wr) fun w3 hb3 => ?_;have h5 := zbt g hb3;replace c2 := c2.bl hb3;have f1 := c2.cell 1 rfl;cases nb
     ·have N := hid (H8.out rfl)
      clear H8 H9 H0;go_wp2_with fail;go_ret;exact ⟨_, rfl, congrArg (Value.int .i64) N.out.symm, h5⟩
     ·go_wp2_with fail
      refine zR (HS.out w3 h5) fun w4 hb4 => ?_;have hv := zbt h5 hb4;have hn := ((zbt M hb3)).trans (hb4.mono (by have := M.size; have := hb3.size; omega));cases hb'
      ·have N := hid (H0.out trivial rfl)
       clear H8 H9 H0;go_wp2_with fail;go_roundw
       case rel => exact ⟨i + 1, by go_num, Z, N, hn⟩
       case measure => simp [RowKit.intOf]; omega
      ·have N := hid (H9.out trivial rfl)
       clear H8 H9 H0;go_wp2_with fail;go_ret;exact ⟨_, rfl, congrArg (Value.int .i64) N.out.symm, hv⟩
    ·obtain rfl : i = U.length := by omega
     have h0 : fEE (uBd U) U.length = 0 := fEn C.out;have s : Hid (V = if S.length + 1 ≠ U.length then 5 else fEE (sBd P.length b S) S.length) := by unfold Hid; rw [t.out, if_neg (by rw [h0]; simp)]
     clear t h0 C;obtain ⟨wa, hO⟩ : ∃ x, x = wr := ⟨_, rfl⟩;subst hO;by_cases hSU : S.length + 1 = U.length
     ·have h4 : Hid (V = fEE (sBd P.length b S) S.length) := by unfold Hid; rw [s.out, if_neg (by omega)]
      have hK : ((S.length : Int) != (U.length : Int) - 1) = false := by rw [bne_eq_false_iff_eq]; omega
      clear s;go_wp2_with fail;go_loopw [67] (fun t67 wr => ∃ i : Nat, t67 = .int .i64 i /\ i <= S.length /\ Hid (∀ j, j < i -> sBd P.length b S j = 0) /\ Below wa.heap.size wa wr) (fun t67 _ => S.length - (RowKit.intOf t67).toNat)
      case atStart => exact ⟨0, rfl, Nat.zero_le _, fun j h => absurd h (by omega), Below.refl _ _⟩
      case round =>
       obtain ⟨i, rfl, hi, C, M⟩ := hrel;have X := zbt g M;replace c1 := c1.bl M;replace c2 := c2.bl M;clear e1 e2;obtain ⟨d, a⟩ := zk2 c1;obtain ⟨q, o, n⟩ := zk3 c2;have hH := c1.lt;have hJ := c2.lt;rcases Nat.lt_or_ge i S.length with Z | Z
       ·obtain ⟨bs, os, hY, h9, hA, Y⟩ := K.out.surf.cells (by omega)
        injection h9 with hv1 hv2 hv3
        subst hv1 hv3;obtain ⟨pg, cg, h7, f⟩ := Y i Z;have x0 := zcq X hA h7;have H : S[i] ∈ b :: S := List.mem_cons_of_mem _ (List.getElem_mem Z);have h3 : Hid (∀ w', Below w.heap.size w w' -> Good w' -> Calls Tryz.prog 13 #[.agg #[.slice y P.length A, .slice v T.length z], .slice pg S[i].length cg] w' (Ret (fun r _ => r = .int .i64 (errF P.length S[i])) w')) := fun w' hb hg' => he.out S[i] H pg cg w' hb hg' (RdC.below f hb);have hG : (i : Int) < (S.length : Int) := by omega
        by_cases hE : errF P.length S[i] = 0
        ·have hf : errF P.length (fldT b S i) = 0 := by
                    rcases Nat.eq_zero_or_pos i with h0 | h0
                    ·subst h0; exact hx.out
                    ·have O := C.out (i - 1) (by omega)
                     unfold sBd at O;rw [show i - 1 + 1 = i by omega] at O;by_cases m : errF P.length (fldT b S i) = 0
                     ·exact m
                     ·rw [if_pos m] at O; exact absurd O m
         obtain ⟨R, hR, hl, hm⟩ := K.out.num (fldT b S i) (fe0 b S hi) hf;obtain ⟨Q, hQ, hh, hk⟩ := K.out.num S[i] H hE;obtain ⟨pf, cf, hq, I⟩ := sh0 w _ _ _ b U S K.out.base K.out.unit K.out.surf i hi;have hu := hid I
         have ht : Hid (∀ w', Below w.heap.size w w' -> Good w' -> Calls Tryz.prog 63 #[.agg #[.slice y P.length A, .slice v T.length z], .slice pf (fldT b S i).length cf, .slice pg S[i].length cg] w' (Ret (fun r _ => r = .tuple #[.bool (belowB R Q), .int .i64 0]) w')) := fun w' hb hg' => by
                    have q1 : RdQ w' (.slice pf (fldT b S i).length cf) R := rSt (by rw [<- hR]; exact RdC.below hq hb);have q2 : RdQ w' (.slice pg S[i].length cg) Q := rSt (by rw [<- hQ]; exact RdC.below f hb);have hd := K.out.below hb;exact fk0 w' _ _ _ _ P T k R Q ⟨hd.p, hd.t, HM.out, q1, hm, hl⟩ ⟨hd.p, hd.t, HM.out, q2, hk, hh⟩ hg'
         have h8 : sBd P.length b S i = if belowB R Q then 0 else 6 := by
                    unfold sBd;rw [fTn b S Z, if_neg (by rw [hE]; decide), hR, hQ, nTm, nTm]
         have H6 : Hid (belowB R Q = false -> V = 6) := fun h => by
                    have O : sBd P.length b S i = 6 := by rw [h8, h]; rfl
                    rw [h4.out, fEa Z (by rw [O]; decide) C.out, O]
         have H0 : Hid (belowB R Q = true -> ∀ j, j < i + 1 -> sBd P.length b S j = 0) := fun h j hj => by
                    rcases (by omega : j < i \/ j = i) with O | rfl
                    ·exact C.out j O
                    ·rw [h8, h]; rfl
         rw [hE] at h3;clear h8 hm hk hR hQ hl hh hq f I h7 Y hf hE H;generalize belowB R Q = bq at *;generalize (fldT b S i).length = fl at *;generalize S[i].length = gl at *;go_wp2_with fail;refine zR (h3.out wr X (hg.below X)) fun w5 hb5 => ?_;have D := X.trans (hb5.mono X.size);have ho := zbt M hb5;replace c1 := c1.bl hb5;replace c2 := c2.bl hb5;clear d a q o n x0;obtain ⟨d, a⟩ := zk2 c1;obtain ⟨q, o, n⟩ := zk3 c2;have hH := c1.lt;have hJ := c2.lt;have hD : Good w5.drew := (hg.below D).drewN 1;have h6 : Below w.heap.size w w5.drew := D.trans ((bdN w5 1).mono D.size);have hM : w.heap.size <= w5.drew.heap.size := h6.size;go_upto_region 27 with fail
         go_region_held3 (fun w' => w'.cell? ⟨w.heap.size, 0, none⟩ = some (.slice y P.length A) /\ w'.cell? ⟨w.heap.size, 1, none⟩ = some (.slice v T.length z) /\ w'.cell? ⟨w.heap.size + 1, 0, none⟩ = some (.slice pb b.length cb) /\ w'.cell? ⟨w.heap.size + 1, 1, none⟩ = some (.slice pu U.length cu) /\ w'.cell? ⟨w.heap.size + 1, 2, none⟩ = some (.slice (some ⟨bs, os, none⟩) S.length cs))
                    (first | exact ⟨d, a, q, o, n⟩ | exact ⟨p_1_0, p_1_1, p_1_2, p_1_3, p_1_4⟩ | exact ⟨p_2_0, p_2_1, p_2_2, p_2_3, p_2_4⟩)
                    (first
                    | (go_at_call 63; refine (ht.out _ (h6.trans (L.mono hM)) ha).mono ?_; rintro e hc ⟨_, rfl, rfl, J⟩
                       have p_2_0 := zct J p_1_0;have p_2_1 := zct J p_1_1;have p_2_2 := zct J p_1_2;have p_2_3 := zct J p_1_3;have p_2_4 := zct J p_1_4;have hV := J.size;have hS := ha.below J)
                    | (go_at_call 48; refine (hu.out _ h6).mono ?_; rintro e hX ⟨_, rfl, rfl, L⟩
                       have p_1_0 := zct L d;have p_1_1 := zct L a;have p_1_2 := zct L q;have p_1_3 := zct L o;have p_1_4 := zct L n;have hU : w5.heap.size <= hX.heap.size := L.size;have ha := hD.below L))
         have pB : Below w5.heap.size w5 hc := zbt (zbt (bdN w5 1) L) J;have hp : Below wa.heap.size wa hc := zbt ho pB;have hw : Below w.heap.size w hc := zbt D pB;clear pB L J hU hV ha hS d a q o n;cases bq
         ·have N := hid (H6.out rfl)
          clear H6 H0;go_wp2_with fail;go_ret;exact ⟨_, rfl, congrArg (Value.int .i64) N.out.symm, hw⟩
         ·have N := hid (H0.out rfl)
          clear H6 H0;go_wp2_with fail;go_roundw
          case rel => exact ⟨i + 1, by go_num, Z, N, hp⟩
          case measure => simp [RowKit.intOf]; omega
        ·have N : Hid (V = errF P.length S[i]) := by
                    have O : sBd P.length b S i = errF P.length S[i] := by unfold sBd; rw [fTn b S Z, if_pos hE]
                    unfold Hid;rw [h4.out, fEa Z (by rw [O]; exact hE) C.out, O]
         have hy : (errF P.length S[i] != 0) = true := by rw [bne_iff_ne]; exact hE
         generalize errF P.length S[i] = ez at *;generalize S[i].length = gl at *;clear Y h7 f H;go_wp2_with fail;refine zR (h3.out wr X (hg.below X)) fun w5 hb5 => ?_;have D := X.trans (hb5.mono X.size);go_wp2_with fail;go_ret;exact ⟨_, rfl, congrArg (Value.int .i64) N.out.symm, D⟩
       ·obtain rfl : i = S.length := by omega
        have N : Hid (V = 0) := by unfold Hid; rw [h4.out]; exact fEn C.out
        go_wp2_with fail;go_ret;exact ⟨_, rfl, congrArg (Value.int .i64) N.out.symm, X⟩
     ·have N : Hid (V = 5) := by unfold Hid; rw [s.out, if_pos (by omega)]
      have hK : ((S.length : Int) != (U.length : Int) - 1) = true := by rw [bne_iff_ne]; omega
      clear s;go_wp2_with fail;go_ret;exact ⟨_, rfl, congrArg (Value.int .i64) N.out.symm, g⟩
  ·have N : Hid (V = errF P.length b) := HR.out.trans (dEb hT hE)
   have hy : (errF P.length b != 0) = true := by rw [bne_iff_ne]; exact hE
   clear HR;generalize errF P.length b = ez at *;go_wp2_with fail;go_ret;exact ⟨_, rfl, congrArg (Value.int .i64) N.out.symm, l⟩
theorem lse {α : Type} {l m : List α} (h : l.length = m.length) (Z : ∀ j (Y : j < l.length) (X : j < m.length), l[j] = m[j]) : l = m := List.ext_getElem h Z
theorem lnt {α : Type} {l m : List α} {i : Nat} (Z : i < l.length) (Y : i < m.length) (h : l[i] ≠ m[i]) : l ≠ m := fun e => h (by subst e; rfl)
theorem eSa (v u : Value) (l m : List ByteArray) (w : World) (h : RdS w v l) (V : RdS w u m) :
 Calls Tryz.prog 76 #[v, u] w (Ret (fun r _ => r = .bool (decide (l = m))) w) := by
 obtain ⟨p1, c1, rfl, z, y, I⟩ := h.open;obtain ⟨p2, c2, rfl, K, x, H⟩ := V.open;unfold maxLen at y x;have q := hid I;have p := hid H;obtain ⟨N, X⟩ : ∃ r, r = decide (l = m) := ⟨_, rfl⟩;rw [<- X];have G := hid X;clear I H h V X;by_cases hl : l.length = m.length
 ·have O : ((l.length : Int) != (m.length : Int)) = false := by rw [bne_eq_false_iff_eq]; omega
  have k := hid hl;obtain ⟨n, t⟩ := zex (l.length);have E : Hid (n = l.length) := t;have J : m.length = n := by omega
  rw [J] at O K ⊢;rw [<- t] at O z ⊢;clear hl t J;go_enter Tryz.func76, Tryz.ntmps76;go_wp2_with fail;go_loopw [13] (fun t13 wr => ∃ i : Nat, t13 = .int .i64 i /\ i <= n /\ Hid (∀ j (_ : j < i) (h1 : j < l.length) (V : j < m.length), l[j] = m[j]) /\ Below w.heap.size w wr) (fun t13 _ => n - (RowKit.intOf t13).toNat)
  case atStart => exact ⟨0, rfl, Nat.zero_le _, fun j h => absurd h (by omega), Below.refl _ _⟩
  case round =>
   obtain ⟨i, rfl, hi, o, Z⟩ := hrel;rcases Nat.lt_or_ge i n with h | h
   ·have S : i < l.length := by have := E.out; omega
    have R : i < m.length := by have := E.out; have := k.out; omega
    obtain ⟨b1, o1, rfl, B, M⟩ := q.out (List.ne_nil_of_length_pos (by omega));obtain ⟨b, o2, rfl, A, L⟩ := p.out (List.ne_nil_of_length_pos (by omega));have x1 := zcq Z B (M i S);have x2 := zcq Z A (L i R);have f := hid (bse l[i] m[i]);have C : Hid (l[i] = m[i] -> ∀ j (_ : j < i + 1) (h1 : j < l.length) (V : j < m.length), l[j] = m[j]) := fun he j hj h1 V => by
     rcases Nat.lt_or_ge j i with g | g
     ·exact o.out j g h1 V
     ·obtain rfl : j = i := by omega
      exact he
    have D : Hid (l[i] ≠ m[i] -> false = N) := fun he => by rw [G.out]; exact (decide_eq_false (lnt S R he)).symm
    generalize l[i] = q1 at *;generalize m[i] = q2 at *;have c : (i : Int) < (n : Int) := by omega
    clear M L S R;go_upto_region 6 with fail;rcases f.out with ⟨e, d⟩ | ⟨e, d, a⟩
    ·have U := hid (C.out e)
     clear e;go_quiet (fail);obtain ⟨s, Y⟩ := zex (wr.drewN nq);have Q : Below w.heap.size w s := by rw [Y]; exact Z.trans ((bdN wr nq).mono Z.size)
     rw [<- Y];clear Y x1 x2;go_wp2_with fail;go_roundw
     case rel => exact ⟨i + 1, by go_num, by omega, U, Q⟩
     case measure => simp [RowKit.intOf]; omega
    ·have U := hid (D.out e)
     clear e;go_quiet (fail);obtain ⟨s, Y⟩ := zex (wr.drewN nq);have Q : Below w.heap.size w s := by rw [Y]; exact Z.trans ((bdN wr nq).mono Z.size)
     rw [<- Y];clear Y x1 x2;go_wp2_with fail;go_ret;exact ⟨_, rfl, congrArg Value.bool U.out, Q⟩
   ·obtain rfl : i = n := by omega
    have U : Hid (true = N) := by unfold Hid; rw [G.out]; exact (decide_eq_true (lse k.out (fun j h1 V => o.out j (by have := E.out; omega) h1 V))).symm
    go_wp2_with fail;go_ret;exact ⟨_, rfl, congrArg Value.bool U.out, Z⟩
 ·have O : ((l.length : Int) != (m.length : Int)) = true := by rw [bne_iff_ne]; omega
  have U : Hid (false = N) := by unfold Hid; rw [G.out]; exact (decide_eq_false (fun e => hl (by rw [e]))).symm
  clear G q p;go_enter Tryz.func76, Tryz.ntmps76;go_wp2_with fail;go_ret;exact ⟨_, rfl, congrArg Value.bool U.out, Below.refl _ _⟩
theorem eRa (v u : Value) (l m : List ByteArray) (w : World) (h : RdS w v l) (V : RdS w u m) :
 Calls Tryz.prog 120 #[v, u] w (Ret (fun r _ => r = .bool (decide (l = m))) w) := by
 obtain ⟨p1, c1, rfl, z, y, I⟩ := h.open;obtain ⟨p2, c2, rfl, K, x, H⟩ := V.open;unfold maxLen at y x;have q := hid I;have p := hid H;obtain ⟨N, X⟩ : ∃ r, r = decide (l = m) := ⟨_, rfl⟩;rw [<- X];have G := hid X;clear I H h V X;by_cases hl : l.length = m.length
 ·have O : ((l.length : Int) != (m.length : Int)) = false := by rw [bne_eq_false_iff_eq]; omega
  have k := hid hl;obtain ⟨n, t⟩ := zex (l.length);have E : Hid (n = l.length) := t;have J : m.length = n := by omega
  rw [J] at O K ⊢;rw [<- t] at O z ⊢;clear hl t J;go_enter Tryz.func120, Tryz.ntmps120;go_wp2_with fail;go_loopw [13] (fun t13 wr => ∃ i : Nat, t13 = .int .i64 i /\ i <= n /\ Hid (∀ j (_ : j < i) (h1 : j < l.length) (V : j < m.length), l[j] = m[j]) /\ Below w.heap.size w wr) (fun t13 _ => n - (RowKit.intOf t13).toNat)
  case atStart => exact ⟨0, rfl, Nat.zero_le _, fun j h => absurd h (by omega), Below.refl _ _⟩
  case round =>
   obtain ⟨i, rfl, hi, o, Z⟩ := hrel;rcases Nat.lt_or_ge i n with h | h
   ·have S : i < l.length := by have := E.out; omega
    have R : i < m.length := by have := E.out; have := k.out; omega
    obtain ⟨b1, o1, rfl, B, M⟩ := q.out (List.ne_nil_of_length_pos (by omega));obtain ⟨b, o2, rfl, A, L⟩ := p.out (List.ne_nil_of_length_pos (by omega));have x1 := zcq Z B (M i S);have x2 := zcq Z A (L i R);have f := hid (bse l[i] m[i]);have C : Hid (l[i] = m[i] -> ∀ j (_ : j < i + 1) (h1 : j < l.length) (V : j < m.length), l[j] = m[j]) := fun he j hj h1 V => by
     rcases Nat.lt_or_ge j i with g | g
     ·exact o.out j g h1 V
     ·obtain rfl : j = i := by omega
      exact he
    have D : Hid (l[i] ≠ m[i] -> false = N) := fun he => by rw [G.out]; exact (decide_eq_false (lnt S R he)).symm
    generalize l[i] = q1 at *;generalize m[i] = q2 at *;have c : (i : Int) < (n : Int) := by omega
    clear M L S R;go_upto_region 6 with fail;rcases f.out with ⟨e, d⟩ | ⟨e, d, a⟩
    ·have U := hid (C.out e)
     clear e;go_quiet (fail);obtain ⟨s, Y⟩ := zex (wr.drewN nq);have Q : Below w.heap.size w s := by rw [Y]; exact Z.trans ((bdN wr nq).mono Z.size)
     rw [<- Y];clear Y x1 x2;go_wp2_with fail;go_roundw
     case rel => exact ⟨i + 1, by go_num, by omega, U, Q⟩
     case measure => simp [RowKit.intOf]; omega
    ·have U := hid (D.out e)
     clear e;go_quiet (fail);obtain ⟨s, Y⟩ := zex (wr.drewN nq);have Q : Below w.heap.size w s := by rw [Y]; exact Z.trans ((bdN wr nq).mono Z.size)
     rw [<- Y];clear Y x1 x2;go_wp2_with fail;go_ret;exact ⟨_, rfl, congrArg Value.bool U.out, Q⟩
   ·obtain rfl : i = n := by omega
    have U : Hid (true = N) := by unfold Hid; rw [G.out]; exact (decide_eq_true (lse k.out (fun j h1 V => o.out j (by have := E.out; omega) h1 V))).symm
    go_wp2_with fail;go_ret;exact ⟨_, rfl, congrArg Value.bool U.out, Z⟩
 ·have O : ((l.length : Int) != (m.length : Int)) = true := by rw [bne_iff_ne]; omega
  have U : Hid (false = N) := by unfold Hid; rw [G.out]; exact (decide_eq_false (fun e => hl (by rw [e]))).symm
  clear G q p;go_enter Tryz.func120, Tryz.ntmps120;go_wp2_with fail;go_ret;exact ⟨_, rfl, congrArg Value.bool U.out, Below.refl _ _⟩
theorem fc0 (v u : Value) (l m : List ByteArray) (w : World) (h : RdS w v l) (Y : RdS w u m) :
 Calls Tryz.prog 75 #[v, u] w (Ret (fun r _ => r = .bool (decide (l = m))) w) := by
 have X := hid (eRa v u l m w h Y);generalize decide (l = m) = z at *;clear h Y;go_enter Tryz.func75, Tryz.ntmps75;go_wp2_with fail;refine X.out.mono ?_;rintro e V ⟨_, rfl, rfl, Z⟩;go_wp2_with fail;go_ret;exact ⟨_, rfl, rfl, Z⟩
theorem eFa (v u : Value) (l m : List (List ByteArray)) (w : World) (h : RdTx w v l) (X : RdTx w u m) :
 Calls Tryz.prog 77 #[v, u, .func (.func 75) #[] #[]] w (Ret (fun r _ => r = .bool (decide (l = m))) w) := by
 obtain ⟨p1, c1, rfl, s, q⟩ := h.shape;obtain ⟨p2, c2, rfl, J, p⟩ := X.shape;unfold maxLen at q p;have C := hid h;have B := hid X;obtain ⟨N, Y⟩ : ∃ r, r = decide (l = m) := ⟨_, rfl⟩;rw [<- Y];have D := hid Y;clear h X Y;by_cases hl : l.length = m.length
 ·have O : ((l.length : Int) != (m.length : Int)) = false := by rw [bne_eq_false_iff_eq]; omega
  have g := hid hl;obtain ⟨n, o⟩ := zex (l.length);have z : Hid (n = l.length) := o;have I : m.length = n := by omega
  rw [I] at O J B ⊢;rw [<- o] at O s C ⊢;clear hl o I;go_enter Tryz.func77, Tryz.ntmps77;go_wp2_with fail;go_loopw [17] (fun t17 wr => ∃ i : Nat, t17 = .int .i64 i /\ i <= n /\ Hid (∀ j (_ : j < i) (h1 : j < l.length) (X : j < m.length), l[j] = m[j]) /\ Below w.heap.size w wr) (fun t17 _ => n - (RowKit.intOf t17).toNat)
  case atStart => exact ⟨0, rfl, Nat.zero_le _, fun j h => absurd h (by omega), Below.refl _ _⟩
  case round =>
   obtain ⟨i, rfl, hi, k, Z⟩ := hrel;rcases Nat.lt_or_ge i n with h | h
   ·have R : i < l.length := by have := z.out; omega
    have Q : i < m.length := by have := z.out; have := g.out; omega
    obtain ⟨b1, o1, b, e1, y, L⟩ := C.out.cells (by omega);obtain ⟨b2, o2, a, e2, x, K⟩ := B.out.cells (by omega);injection e1 with e11 e12 e13
    injection e2 with e21 e22 e23
    clear e12 e22;subst e11 e13 e21 e23;obtain ⟨pa, ca, d, H⟩ := L i R;obtain ⟨pb, cb, c, G⟩ := K i Q;have x1 := zcq Z y d;have x2 := zcq Z x c;have M := hid (fc0 _ _ _ _ wr (RdC.below H Z) (RdC.below G Z));have S : Hid (l[i] = m[i] -> ∀ j (_ : j < i + 1) (h1 : j < l.length) (X : j < m.length), l[j] = m[j]) := fun he j hj h1 X => by
     rcases Nat.lt_or_ge j i with f | f
     ·exact k.out j f h1 X
     ·obtain rfl : j = i := by omega
      exact he
    have U : Hid (l[i] ≠ m[i] -> false = N) := fun he => by rw [D.out]; exact (decide_eq_false (lnt R Q he)).symm
    have E : Hid ((decide (l[i] = m[i]) = true -> l[i] = m[i]) /\ (decide (l[i] = m[i]) = false -> l[i] ≠ m[i])) := ⟨of_decide_eq_true, of_decide_eq_false⟩;generalize l[i] = q1 at *;generalize m[i] = q2 at *;generalize decide (q1 = q2) = bq at *;generalize q1.length = n1 at *;generalize q2.length = n2 at *;have h0 : (i : Int) < (n : Int) := by omega
    clear L K R Q H G d c;go_wp2_with fail;refine M.out.mono ?_;rintro e w3 ⟨_, rfl, rfl, t⟩;have V := zbt Z t;cases bq
    ·have A := hid (U.out (E.out.2 rfl))
     clear U E S;go_wp2_with fail;go_ret;exact ⟨_, rfl, congrArg Value.bool A.out, V⟩
    ·have A := hid (S.out (E.out.1 rfl))
     clear U E S;go_wp2_with fail;go_roundw
     case rel => exact ⟨i + 1, by go_num, by omega, A, V⟩
     case measure => simp [RowKit.intOf]; omega
   ·obtain rfl : i = n := by omega
    have M : Hid (true = N) := by unfold Hid; rw [D.out]; exact (decide_eq_true (lse g.out (fun j h1 X => k.out j (by have := z.out; omega) h1 X))).symm
    go_wp2_with fail;go_ret;exact ⟨_, rfl, congrArg Value.bool M.out, Z⟩
 ·have O : ((l.length : Int) != (m.length : Int)) = true := by rw [bne_iff_ne]; omega
  have M : Hid (false = N) := by unfold Hid; rw [D.out]; exact (decide_eq_false (fun e => hl (by rw [e]))).symm
  clear D C B;go_enter Tryz.func77, Tryz.ntmps77;go_wp2_with fail;go_ret;exact ⟨_, rfl, congrArg Value.bool M.out, Below.refl _ _⟩
structure DepR (w : World) (vb vu vs : Value) (b : List ByteArray) (U : List ByteArray) (S : List (List ByteArray)) : Prop where
 base : RdS w vb b
 unit : RdS w vu U
 surf : RdTx w vs S
theorem DepR.below {w w' : World} {vb vu vs : Value} {b U : List ByteArray} {S : List (List ByteArray)} (h : DepR w vb vu vs b U S) (Z : Below w.heap.size w w') : DepR w' vb vu vs b U S :=
 ⟨RdC.below h.base Z, RdC.below h.unit Z, h.surf.below Z⟩
theorem DepR.open {w : World} {vb vu vs : Value} {b U : List ByteArray} {S : List (List ByteArray)} (h : DepR w vb vu vs b U S) : ∃ X Z R Y V cs, vb = .slice X b.length Z /\ vu = .slice R U.length Y /\ vs = .slice V S.length cs := by
 obtain ⟨X, Z, Q, -, -, -⟩ := h.base.open;obtain ⟨R, Y, O, -, -, -⟩ := h.unit.open;obtain ⟨V, cs, N, -, -⟩ := h.surf.shape;exact ⟨X, Z, R, Y, V, cs, Q, O, N⟩
theorem sEa (w : World) (p n o G D E : Value) (b U b' X : List ByteArray) (S Y : List (List ByteArray)) (h : DepR w p n o b U S) (y : DepR w G D E b' X Y) :
 Calls Tryz.prog 37 #[.agg #[p, n, o], .agg #[G, D, E]] w (Ret (fun r _ => r = .bool (decide (b = b' /\ U = X /\ S = Y))) w) := by
 have C := hid h;have Z := hid y;obtain ⟨v, A, s, z, t, cs, rfl, rfl, rfl⟩ := h.open;obtain ⟨J, N, H, L, I, M, rfl, rfl, rfl⟩ := y.open;have m : Hid (∀ w', Below w.heap.size w w' -> _) := fun w' hb => fc0 _ _ _ _ w' (C.out.below hb).base (Z.out.below hb).base;have l : Hid (∀ w', Below w.heap.size w w' -> _) := fun w' hb => eSa _ _ _ _ w' (C.out.below hb).unit (Z.out.below hb).unit;have k : Hid (∀ w', Below w.heap.size w w' -> _) := fun w' hb => eFa _ _ _ _ w' (C.out.below hb).surf (Z.out.below hb).surf;have Q : Hid (decide (b = b' /\ U = X /\ S = Y) = (decide (b = b') && (decide (U = X) && decide (S = Y)))) := by
  unfold Hid;by_cases B : b = b' <;> by_cases h2 : U = X <;> by_cases h3 : S = Y <;> simp [B, h2, h3]
 generalize decide (b = b' /\ U = X /\ S = Y) = res at *;generalize decide (b = b') = r1 at *;generalize decide (U = X) = r2 at *;generalize decide (S = Y) = r3 at *;generalize b.length = lb at *;generalize b'.length = lb' at *;generalize U.length = lu at *;generalize X.length = lu' at *;generalize S.length = ls at *;generalize Y.length = ls' at *;clear h y C Z;go_enter Tryz.func37, Tryz.ntmps37;go_wp2_with fail;obtain ⟨W, K⟩ := zex ((w.alloc (.cells #[.slice v lb A, .slice s lu z, .slice t ls cs] 45)).alloc (.cells #[.slice J lb' N, .slice H lu' L, .slice I ls' M] 45));have q : Below w.heap.size w W := by rw [K]; exact zal2 _ _ _
 have c2 : BoxN W (w.heap.size + 1) 45 [.slice J lb' N, .slice H lu' L, .slice I ls' M] := by rw [K]; exact BoxN.new _ _ _ _ (by simp)
 have c1 : BoxN W w.heap.size 45 [.slice v lb A, .slice s lu z, .slice t ls cs] := by
  rw [K];have B := (BoxN.new w #[.slice v lb A, .slice s lu z, .slice t ls cs] 45 _ rfl);exact B.below (zal _ _) B.lt
 have a0 := c1.cell 0 rfl;have i := c2.cell 0 rfl;rw [<- K];clear K;refine zR (m.out W q) fun w1 hb1 => ?_;have V := zbt q hb1;replace c1 := c1.bl hb1;replace c2 := c2.bl hb1;clear a0 i;have j := c1.cell 1 rfl;have b1 := c2.cell 1 rfl;cases r1
 ·have O : Hid (res = false) := Q.out
  clear Q;go_wp2_with fail;go_ret;exact ⟨_, rfl, congrArg Value.bool O.out.symm, V⟩
 ·go_wp2_with fail
  refine zR (l.out w1 V) fun w2 hb2 => ?_;have R := zbt V hb2;replace c1 := c1.bl hb2;replace c2 := c2.bl hb2;clear j b1;have g := c1.cell 2 rfl;have f := c2.cell 2 rfl;cases r2
  ·have O : Hid (res = false) := Q.out
   clear Q;go_wp2_with fail;go_ret;exact ⟨_, rfl, congrArg Value.bool O.out.symm, R⟩
  ·go_wp2_with fail
   refine zR (k.out w2 R) fun w3 hb3 => ?_;have x := zbt R hb3;have O : Hid (res = r3) := by unfold Hid; rw [Q.out]; simp
   clear Q;go_wp2_with fail;go_ret;exact ⟨_, rfl, congrArg Value.bool O.out.symm, x⟩
theorem re0 (q : Rat) (S : (RS q).size <= 100000) (w : World) :
 Calls Tryz.prog 78 #[.string (RS q)] w (Ret (fun v _ => v = .string (RS q.abs)) w) := by
 have Y := Rps q;have Z := Rhd q Y;obtain ⟨s, U⟩ := zex (RS q);have R := hid U;simp only [<- U] at Y Z S ⊢;obtain ⟨c0, V⟩ : ∃ c0 : Nat, s[0].toNat = c0 := ⟨_, rfl⟩;rw [V] at Z;clear U;rcases Int.lt_or_le q.num 0 with h | h
 ·have Q : ((c0 : Int) == 45) = true := by rw [beq_iff_eq]; have := Z.2 h; omega
  have X : Hid (s.extract 1 s.size = RS q.abs) := by
   unfold Hid;have e : q.abs = -q := by unfold Rat.abs; rw [if_neg (Rat.not_le.2 (num_lt_zero_iff.1 h))]
   rw [e];apply bet;rw [bdp, Blt, R.out, Rlt, Rlt, Rng q h]
  clear Z h;go_enter Tryz.func78, Tryz.ntmps78;go_wp2_with fail;go_ret;exact ⟨_, rfl, congrArg Value.string X.out, Below.refl _ _⟩
 ·have Q : ((c0 : Int) == 45) = false := by rw [beq_eq_false_iff_ne]; intro e; have := Z.1 (by omega); omega
  have X : Hid (s = RS q.abs) := by
   unfold Hid;have e : q.abs = q := by unfold Rat.abs; rw [if_pos (Rat.num_nonneg.1 h)]
   rw [e, R.out]
  clear Z h;go_enter Tryz.func78, Tryz.ntmps78;go_wp2_with fail;go_ret;exact ⟨_, rfl, congrArg Value.string X.out, Below.refl _ _⟩
theorem n2a (w : World) (Z X Y : Value) (b U : List ByteArray) (S : List (List ByteArray)) (h : DepR w Z X Y b U S) (O : b.length + U.length + S.length <= 1000000) :
 Calls Tryz.prog 15 #[.agg #[Z, X, Y]] w (Ret (fun r _ => r = .bool (decide (b.length + U.length + S.length = 0))) w) := by
 obtain ⟨N, R, L, Q, M, cs, rfl, rfl, rfl⟩ := h.open;have V : Hid (((b.length : Int) + (U.length : Int) + (S.length : Int) == 0) = decide (b.length + U.length + S.length = 0)) := by
  unfold Hid;by_cases h0 : b.length + U.length + S.length = 0
  ·rw [decide_eq_true h0, beq_iff_eq]; omega
  ·rw [decide_eq_false h0, beq_eq_false_iff_ne]; omega
 generalize decide (b.length + U.length + S.length = 0) = res at *;generalize b.length = lb at *;generalize U.length = lu at *;generalize S.length = ls at *;clear h;go_enter Tryz.func15, Tryz.ntmps15;go_wp2_with fail;go_ret;exact ⟨_, rfl, congrArg Value.bool V.out, (Below.refl _ _).alloc (Nat.le_refl _) _⟩
theorem pb0 (w : World) (v : Value) (F : List Rat) (h : RdQ w v F) (hl : F.length <= 400) (t : ∀ q ∈ F, (RS q).size <= 100000) :
 Calls Tryz.prog 38 #[v] w (Ret (fun r w' => FldV w' w.heap.size r (F.map Rat.abs)) w) := by
 obtain ⟨i0, Q, B, A, z⟩ := info_parts isr;have I : Hid (∀ i (Q : i < F.length), ∃ b o c, v = .slice (some ⟨b, o, none⟩) F.length c /\ b < w.heap.size /\ w.cell? ⟨b, o + i, none⟩ = some (.string (RS F[i]))) := fun i Q => by
  obtain ⟨p, c, rfl, -, -, hr⟩ := h.open;obtain ⟨b, o, rfl, G, a⟩ := hr (List.ne_nil_of_length_pos (by omega));exact ⟨b, o, c, rfl, G, a i Q⟩
 have J : Hid (∀ i (Q : i < F.length) w, _) := fun i Q w => re0 F[i] (t _ (List.getElem_mem Q)) w;obtain ⟨pf, k, rfl, E, D, -⟩ := h.open;unfold maxLen at D;obtain ⟨n, K⟩ := zex (F.length);have M := hid K;replace I : Hid (∀ i (Q : i < F.length), ∃ b o c, Value.slice pf n k = .slice (some ⟨b, o, none⟩) n c /\ b < w.heap.size /\ w.cell? ⟨b, o + i, none⟩ = some (.string (RS F[i]))) := by rw [K]; exact I
 rw [<- K] at hl E ⊢;clear h t K;go_enter Tryz.func38, Tryz.ntmps38;go_wp2_with fail;obtain ⟨W, L⟩ := zex (w.alloc (.cells #[] 55));have d : Below w.heap.size w W := by rw [L]; exact zal _ _
 have f : W.ownsRow w.heap.size 55 1 (.slice (some ⟨w.heap.size, 0, none⟩) 0 0) 0 ([] : List Value) := by
  rw [L];have := World.ownsRow_lit (base := w.heap.size) (e := 55) (size := 1) w #[] 0 (by simp) (by decide) rfl;simpa using this
 rw [<- L];clear L;go_loopw [3, 4] (fun t3 t4 wr => ∃ (i : Nat), t4 = .int .i64 i /\ i <= n /\ wr.ownsRow w.heap.size 55 1 t3 i (cFd ((F.take i).map Rat.abs)) /\ Below w.heap.size w wr) (fun _ t4 _ => n - (RowKit.intOf t4).toNat)
 case atStart => exact ⟨0, rfl, Nat.zero_le _, f, d⟩
 case round =>
  obtain ⟨i, rfl, h2, Y, S⟩ := hrel;obtain ⟨p3, l, rfl⟩ := oRs Y;rcases Nat.lt_or_ge i n with h | h
  ·obtain ⟨b, o, c, g, G, X⟩ := I.out i (by have := M.out; omega)
   injection g with e11 e12 e13
   clear e12;subst e11 e13;have O : i < F.length := by have := M.out; omega
   have xi := zcq S G X;have H : Hid ((F.take (i + 1)).map Rat.abs = (F.take i).map Rat.abs ++ [F[i].abs]) := by
    unfold Hid;rw [List.take_succ_eq_append_getElem O, List.map_append];rfl
   have m := hid (J.out i O);generalize F[i].abs = qa at *;generalize F[i] = q at *;have x : (i : Int) < (n : Int) := by omega
   clear X O;go_wp2_with fail;refine zR (m.out wr) fun w2 hb2 => ?_;have V := WRA Y hb2;have R : Below w.heap.size w w2 := zbt S hb2;have s := R.size;clear hb2 Y S xi
   go_wp2_with (at_builtin; refine wpList_append_own _ rfl _ _ 33 rfl w.heap.size 55 i0 (.string ⟨#[]⟩) 1 16 Tryz.underlying33 Q B A z rfl (by decide) _ _ _ rfl (V.alloc _) ⟨w2.heap.size, 0, none⟩ 1 1 [.string (RS qa)] rfl rfl (cos _ _ _) (ocs _) (by unfold maxLen; omega) (by omega) (by simp; omega) ?_
                intro v2 w3 U Z _;have N : Below w.heap.size w w3 := (R.alloc (by omega) _).grown Z (by simp; omega) (fun j hj => by have := (V.lt j hj).1; omega);clear Z)
   go_roundw
   case rel => exact ⟨i + 1, by simp, by omega, by rw [H.out]; unfold cFd at U ⊢; rw [List.map_append]; exact U, N⟩
   case measure =>
    show n - ((i : Int) + 1).toNat < n - (i : Int).toNat;omega
  ·obtain rfl : i = n := by omega
   have C : FldV wr w.heap.size (.slice p3 i l) (F.map Rat.abs) := by
    unfold FldV;have e : (F.map Rat.abs).length = i := by rw [List.length_map, <- M.out]
    rw [e];have y := Y;rw [List.take_of_length_le (by have := M.out; omega)] at y;exact y
   go_wp2_with fail;go_ret;exact ⟨_, rfl, C, S⟩
abbrev StepQ := List Int × Bool
def cSt (H : List StepQ) : List Value := H.flatMap fun h => h.1.map (fun x => Value.int .i8 x) ++ [Value.bool h.2]
def stepF (n : Nat) (h : StepQ) : List Rat := (hFF h.1 h.2 n).map Rat.abs
def topTo (n : Nat) (B : List Rat) (H : List StepQ) : Nat -> List Rat
 | 0 => B
 | i + 1 => List.zipWith (·+ ·) (topTo n B H i) (stepF n (H[i]?.getD ([], false)))
def sTo (n : Nat) (B : List Rat) (H : List StepQ) (m : Nat) : List (List Rat) := (List.range m).map fun i => topTo n B H (i + 1)
theorem sTn (n : Nat) (B : List Rat) (H : List StepQ) (m : Nat) : sTo n B H (m + 1) = sTo n B H m ++ [topTo n B H (m + 1)] := by
 unfold sTo; rw [List.range_succ, List.map_append]; rfl
theorem sTl (n : Nat) (B : List Rat) (H : List StepQ) (m : Nat) : (sTo n B H m).length = m := by unfold sTo; simp
def nameU (i : Nat) : ByteArray := ⟨#[117, (49 + i).toUInt8]⟩
def uTo (m : Nat) : List ByteArray := (List.range m).map nameU
theorem ua0 (m : Nat) : uTo (m + 1) = uTo m ++ [nameU m] := by unfold uTo; rw [List.range_succ, List.map_append]; rfl
theorem sFl (n : Nat) (h : StepQ) : (stepF n h).length = n := by unfold stepF; rw [List.length_map, he0]
theorem tTl (n : Nat) (B : List Rat) (H : List StepQ) (Z : B.length = n) : ∀ i, (topTo n B H i).length = n
 | 0 => Z
 | i + 1 => by unfold topTo; rw [List.length_zipWith, tTl n B H Z i, sFl]; simp
def RdSt (w : World) (v : Value) (H : List StepQ) : Prop := RdC 7 w v H.length (cSt H) /\ ∀ h ∈ H, h.1.length = 6 /\ ∀ x ∈ h.1, -128 <= x /\ x <= 127
theorem RdSt.below {w w' : World} {v : Value} {H : List StepQ} (h : RdSt w v H) (Z : Below w.heap.size w w') : RdSt w' v H := ⟨RdC.below h.1 Z, h.2⟩
theorem cSg : ∀ (H : List StepQ) (_ : ∀ h ∈ H, h.1.length = 6) (i j : Nat) (Z : i < H.length) (_ : j < 7), (cSt H)[i * 7 + j]? = (H[i].1.map (fun x => Value.int .i8 x) ++ [Value.bool H[i].2])[j]?
 | [], _, i, j, Z, _ => by simp at Z
 | h :: H, hl, 0, j, Z, hj => by
   have X := hl h (by simp);unfold cSt;rw [List.flatMap_cons, List.getElem?_append_left (by simp; omega)];simp
 | h :: H, hl, i + 1, j, Z, hj => by
   have X := hl h (by simp);have Y := cSg H (fun x hx => hl x (by simp [hx])) i j (by simp at Z; omega) hj;unfold cSt at Y ⊢;rw [List.flatMap_cons, List.getElem?_append_right (by simp; omega), List.getElem_cons_succ];rw [<- Y];congr 1;simp;omega
theorem lsx {l : List Int} (h : l.length = 6) : ∃ a b c d e f, l = [a, b, c, d, e, f] := by
 match l, h with
 | [a, b, c, d, e, f], _ => exact ⟨a, b, c, d, e, f, rfl⟩
theorem RdSt.cells {w : World} {v : Value} {H : List StepQ} (h : RdSt w v H) {i : Nat} (Q : i < H.length) : ∃ (b o c : Nat) (x0 x1 x2 Y X V : Int) (U : Bool), v = .slice (some ⟨b, o, none⟩) H.length c /\ b < w.heap.size /\ H[i] = ([x0, x1, x2, Y, X, V], U) /\ (∀ x ∈ [x0, x1, x2, Y, X, V], -128 <= x /\ x <= 127) /\
 w.cell? ⟨b, o + i * 7, none⟩ = some (.int .i8 x0) /\ w.cell? ⟨b, o + i * 7 + 1, none⟩ = some (.int .i8 x1) /\ w.cell? ⟨b, o + i * 7 + 2, none⟩ = some (.int .i8 x2) /\ w.cell? ⟨b, o + i * 7 + 3, none⟩ = some (.int .i8 Y) /\ w.cell? ⟨b, o + i * 7 + 4, none⟩ = some (.int .i8 X) /\ w.cell? ⟨b, o + i * 7 + 5, none⟩ = some (.int .i8 V) /\ w.cell? ⟨b, o + i * 7 + 6, none⟩ = some (.bool U) := by
 obtain ⟨⟨p, c, rfl, K, J, I, O⟩, S⟩ := h;obtain ⟨b, o, rfl, L⟩ := O (List.ne_nil_of_length_pos (by omega));obtain ⟨N, M⟩ := S H[i] (List.getElem_mem Q);obtain ⟨x0, x1, x2, Y, X, V, hx⟩ := lsx N;have Z : ∀ j u, j < 7 -> (([x0, x1, x2, Y, X, V].map (fun x => Value.int .i8 x) ++ [Value.bool H[i].2])[j]? = some u) -> w.cell? ⟨b, o + i * 7 + j, none⟩ = some u := fun j u hj hu => by
  have R := cSg H (fun h hh => (S h hh).1) i j Q hj;rw [hx] at R;have := L (i * 7 + j) u (by rw [R]; exact hu);rw [<- Nat.add_assoc] at this;exact this
 refine ⟨b, o, c, x0, x1, x2, Y, X, V, H[i].2, rfl, World.block_lt_of_cell? w _ (Z 0 _ (by omega) rfl), Prod.ext hx rfl, ?_, Z 0 _ (by omega) rfl, Z 1 _ (by omega) rfl, Z 2 _ (by omega) rfl, Z 3 _ (by omega) rfl, Z 4 _ (by omega) rfl, Z 5 _ (by omega) rfl, Z 6 _ (by omega) rfl⟩;rw [<- hx];exact M
theorem Fr.abs {d B : Nat} {q : Rat} (h : Fr d B q) : Fr d B q.abs := by
 unfold Rat.abs;split
 ·exact h
 ·obtain ⟨n, Z, Y⟩ := h
  exact ⟨-n, by rw [Rat.neg_mul, Z]; simp, by omega⟩
theorem fsp (n : Nat) (h : StepQ) : ∀ q ∈ stepF n h, Fr 2 38 q := fun q hq => by
 unfold stepF at hq;obtain ⟨x, hx, rfl⟩ := List.mem_map.1 hq;exact (fht _ _ _ x hx).abs
theorem ftp (n : Nat) (B : List Rat) (H : List StepQ) (Z : ∀ q ∈ B, Fr 2 38 q) : ∀ i, ∀ q ∈ topTo n B H i, Fr 2 (38 * (i + 1)) q
 | 0, q, hq => Z q hq
 | i + 1, q, hq => by
   unfold topTo at hq;obtain ⟨j, Y, rfl⟩ := List.getElem_of_mem hq;rw [List.getElem_zipWith];rw [List.length_zipWith] at Y;exact ((ftp n B H Z i _ (List.getElem_mem (by omega))).add (fsp n _ _ (List.getElem_mem (by omega)))).mono (by omega)
theorem s3o {q : Rat} (h : Fr 2 200 q) : Sz 3 q := by
 obtain ⟨n, Z, Y⟩ := h;exact sod (n := 2) (m := n) (by decide) (by omega) (by decide) (by rw [<- Z]; rfl)
theorem oo2 (w : World) (base t : Nat) (v : Value) (Z : base <= w.heap.size) : (w.alloc (.cells #[v] t)).ownsRow base t 1 (.slice (some ⟨w.heap.size, 0, none⟩) 1 1) 1 [v] := by
 refine ⟨by simp, .inr ⟨w.heap.size, 1, #[v], rfl, Z, ?_, Nat.le_refl _, by unfold maxLen; omega, by simp, by simp⟩⟩;exact BoxN.new w #[v] t w.heap.size rfl
theorem bKf {w : World} {b c t i : Nat} {l : List Value} {v : Value} (h : BoxN w b t l) (Z : b ≠ c) : BoxN (w.setCell ⟨c, i, none⟩ v) b t l :=
 (Below.heap_setCell _ _ _ b (fun e => Z e)).trans h
theorem RdC.set5m {sz : Nat} {w : World} {b1 b2 t1 t2 n : Nat} {v : Value} {cs : List Value} (U : BoxN w b1 t1 [.slice none 0 0, .slice none 0 0]) (J : BoxN w b2 t2 [.slice none 0 0, .slice none 0 0, .slice none 0 0]) (Y : b2 ≠ b1) (h : RdC sz w v n cs) (Z : ∀ y ∈ cs, y ≠ .slice none 0 0) (x0 x1 X V Q : Value) :
 RdC sz (((((w.setCell ⟨b1, 0, none⟩ x0).setCell ⟨b1, 1, none⟩ x1).setCell ⟨b2, 0, none⟩ X).setCell ⟨b2, 1, none⟩ V).setCell ⟨b2, 2, none⟩ Q).drew v n cs := by
 have O := RdC.set_other h (U.cell 0 rfl) Z (x := x0);have H := U.set 0 x0;have N := RdC.set_other O (H.cell 1 rfl) Z (x := x1);have S := bKf (i := 1) (v := x1) (bKf (i := 0) (v := x0) J Y) Y;have M := RdC.set_other N (S.cell 0 rfl) Z (x := X);have R := S.set 0 X;have L := RdC.set_other M (R.cell 1 rfl) Z (x := V);have I := R.set 1 V;have K := RdC.set_other L (I.cell 2 rfl) Z (x := Q);exact K.drewN 1
theorem iSg : (Tryz.prog.info? 9).map (fun i => (i.zero, i.size, i.bytes)) = some (some (.string ⟨#[]⟩), 1, 16) := by kernel_rfl
theorem iFd : (Tryz.prog.info? 33).map (fun i => (i.zero, i.size, i.bytes)) = some (some (.slice none 0 0), 1, 24) := by kernel_rfl
theorem m2a (w : World) (kz s0 s1 : Int) (I : Bool) (k : Nat) (hk : kz.tmod 8 = (k : Int)) (xa : 0 <= kz) (yg : kz <= 255) (xc : -128 <= s0 /\ s0 <= 127) (zy : -128 <= s1 /\ s1 <= 127) (a0 a1 a2 a3 a4 a5 : Int) (ah : Bool) (ha : ∀ x ∈ [a0, a1, a2, a3, a4, a5], -128 <= x /\ x <= 127) (vh : Value) (H : List StepQ) (hH : RdSt w vh H) (yT : H.length <= 3) (P : List PtQ) (hP : P = sc0 k s0 s1 I) (B : List Rat) (hB : B = hFF [a0, a1, a2, a3, a4, a5] ah P.length) (hg : Good w) :
 Calls Tryz.prog 9 #[.agg #[.int .u8 kz, .int .i8 s0, .int .i8 s1, .bool I, .int .i8 a0, .int .i8 a1, .int .i8 a2, .int .i8 a3, .int .i8 a4, .int .i8 a5, .bool ah, vh]] w (Ret (fun r w' => ∃ vp vt vb vu vs, r = .tuple #[.agg #[vp, vt], .agg #[vb, vu, vs]] /\ RdP w' vp (strP P) /\ RdT w' vt (sTT k) /\ RdQ w' vb B /\ RdS w' vu (uTo (H.length + 1)) /\ FlsV 33 w' w.heap.size vs (sTo P.length B H H.length)) w) := by
 have y8 : P.length <= 6 := by rw [hP, sf0]; exact sg0 k
 have zI : Hid (∀ w, Good w -> Calls Tryz.prog 35 #[.agg #[.int .u8 kz, .int .i8 s0, .int .i8 s1, .bool I]] w (Ret (fun r w' => ∃ vp vt, r = .agg #[vp, vt] /\ RdP w' vp (strP P) /\ RdT w' vt (sTT k)) w)) := fun w hg => by rw [hP]; exact md0 w kz s0 s1 I k hk xa yg xc zy hg
 have yD : Hid (∀ (w : World) (pp : Option Addr) (g : Nat) (vt : Value), Good w -> Calls Tryz.prog 10 #[.agg #[.slice pp P.length g, vt], .agg #[.int .i8 a0, .int .i8 a1, .int .i8 a2, .int .i8 a3, .int .i8 a4, .int .i8 a5, .bool ah]] w (Ret (fun r w' => RdQ w' r B /\ FreshV w.heap.size r) w)) := fun w pp g vt hg => by rw [hB]; exact m1a w pp P.length g vt a0 a1 a2 a3 a4 a5 ah ha y8 hg
 have yA : Hid (∀ q ∈ B, Fr 2 38 q) := by unfold Hid; rw [hB]; exact fht _ _ _
 have zn : Hid (B.length = P.length) := by unfold Hid; rw [hB, he0]
 have HH := hid hH;obtain ⟨ph, ch, rfl, x6, x7, -⟩ := hH.1;unfold maxLen at x7;have HP := hid hP;clear hH hP hB ha hk;obtain ⟨n, hn⟩ := zex (H.length);have HN := hid hn;rw [<- hn] at x6 yT ⊢;clear hn;obtain ⟨i0, hi, xm, xn, xo⟩ := info_parts isr;go_enter Tryz.func9, Tryz.ntmps9;go_upto_region 1 with fail;obtain ⟨W, hW⟩ := zex (((w.alloc (.cells #[.int .u8 kz, .int .i8 s0, .int .i8 s1, .bool I, .int .i8 a0, .int .i8 a1, .int .i8 a2, .int .i8 a3, .int .i8 a4, .int .i8 a5, .bool ah, .slice ph n ch] 31)).alloc (.cells #[.slice none 0 0, .slice none 0 0] 41)).alloc (.cells #[.slice none 0 0, .slice none 0 0, .slice none 0 0] 45));have hB : Below w.heap.size w W := by rw [hW]; exact (((Below.refl _ _).alloc (Nat.le_refl _) _).alloc (by simp) _).alloc (by simp; omega) _
 have bx : BoxN W w.heap.size 31 [.int .u8 kz, .int .i8 s0, .int .i8 s1, .bool I, .int .i8 a0, .int .i8 a1, .int .i8 a2, .int .i8 a3, .int .i8 a4, .int .i8 a5, .bool ah, .slice ph n ch] := by
  rw [hW];have h1 := BoxN.new w #[.int .u8 kz, .int .i8 s0, .int .i8 s1, .bool I, .int .i8 a0, .int .i8 a1, .int .i8 a2, .int .i8 a3, .int .i8 a4, .int .i8 a5, .bool ah, .slice ph n ch] 31 _ rfl;exact (h1.below ((Below.refl _ _).alloc (Nat.le_refl _) _) h1.lt).below ((Below.refl _ _).alloc (Nat.le_refl _) _) (by simp; omega)
 have bm : BoxN W (w.heap.size + 1) 41 [.slice none 0 0, .slice none 0 0] := by
  rw [hW];have h1 := BoxN.new (w.alloc (.cells #[.int .u8 kz, .int .i8 s0, .int .i8 s1, .bool I, .int .i8 a0, .int .i8 a1, .int .i8 a2, .int .i8 a3, .int .i8 a4, .int .i8 a5, .bool ah, .slice ph n ch] 31)) #[.slice none 0 0, .slice none 0 0] 41 (w.heap.size + 1) (by simp);exact h1.below (zal _ _) h1.lt
 have bd : BoxN W (w.heap.size + 2) 45 [.slice none 0 0, .slice none 0 0, .slice none 0 0] := by rw [hW]; exact BoxN.new _ _ _ _ (by simp)
 have xH : W.heap.size = w.heap.size + 3 := by rw [hW]; simp
 rw [<- hW];clear hW;obtain ⟨k0, k1, k2, k3⟩ := zk4 bx;go_wp2_with fail;refine (zI.out W (hg.below hB)).mono ?_;rintro e o2 ⟨_, rfl, ⟨vp, vt, rfl, hp, ht⟩, hE⟩;have yR := zbt hB hE;replace bx := bx.bl hE;replace bm := bm.bl hE;replace bd := bd.bl hE;have xA := bd.lt;obtain ⟨pp, g, rfl, -, -, -⟩ := hp.open;obtain ⟨pt, ct, rfl, -, -, -⟩ := ht.open;rw [sPl] at *;clear k0 k1 k2 k3 zI;go_upto_region 2 with fail;obtain ⟨o3, z1⟩ : ∃ W, W = o2.alloc (.cells #[.slice pp P.length g, .slice pt (sTT k).length ct] 41) := ⟨_, rfl⟩;have h7 : Below o2.heap.size o2 o3 := by rw [z1]; exact zal _ _
 have b5 : BoxN o3 o2.heap.size 41 [.slice pp P.length g, .slice pt (sTT k).length ct] := by rw [z1]; exact BoxN.new _ _ _ _ rfl
 have zV := zbt yR h7;replace bx := bx.bl h7;replace bm := bm.bl h7;replace bd := bd.bl h7;have zx := RdC.below hp h7;have zz := RdC.below ht h7;rw [<- z1];clear z1 hp ht h7 hE;obtain ⟨m0, m1⟩ := zk2 b5;have k4 := bx.cell 4 rfl;have k5 := bx.cell 5 rfl;have k6 := bx.cell 6 rfl;have k7 := bx.cell 7 rfl;have k8 := bx.cell 8 rfl;have k9 := bx.cell 9 rfl;have xr := bx.cell 10 rfl;go_wp2_with fail;refine (yD.out o3 _ _ _ (hg.below zV)).mono ?_;rintro e U ⟨_, rfl, ⟨yn, -⟩, f⟩;have hT := zbt zV f;replace bx := bx.bl f;replace bm := bm.bl f;replace bd := bd.bl f;replace b5 := b5.bl f;replace zx := RdC.below zx f;replace zz := RdC.below zz f;obtain ⟨pb, cb, rfl, -, -, -⟩ := yn.open;rw [zn.out];clear m0 m1 k4 k5 k6 k7 k8 k9 xr f;go_upto_region 3 with fail;obtain ⟨V, hV⟩ := zex ((U.alloc (.cells #[.string ⟨#[117, 49]⟩] 9)).alloc (.cells #[.slice pb P.length cb, .slice (some ⟨U.heap.size, 0, none⟩) 1 1, .slice none 0 0] 45));have zq : Below U.heap.size U V := by rw [hV]; exact zal2 _ _ _
 have yx : V.ownsRow U.heap.size 9 1 (.slice (some ⟨U.heap.size, 0, none⟩) 1 1) 1 ((uTo 1).map fun x => Value.string x) := by
  rw [hV];exact WRA (oo2 U U.heap.size 9 (.string ⟨#[117, 49]⟩) (Nat.le_refl _)) ((Below.refl _ _).alloc (Nat.le_refl _) _)
 have bD : BoxN V (U.heap.size + 1) 45 [.slice pb P.length cb, .slice (some ⟨U.heap.size, 0, none⟩) 1 1, .slice none 0 0] := by rw [hV]; exact BoxN.new _ _ _ _ (by simp)
 have xG : V.heap.size = U.heap.size + 2 := by rw [hV]; simp
 rw [<- hV];clear hV;have xF := zbt hT zq;have e0 := bD.cell 0 rfl;have zG := hid bx;have zF := hid b5;have zM : Hid (RdQ U (.slice pb P.length cb) B) := by unfold Hid; rw [<- zn.out]; exact yn
 have zS := hid (tTl P.length B H zn.out);go_wp2_with fail;go_loopw [6, 7] (fun t6 t7 wr => ∃ (i : Nat) (zD : Option Addr) (c6 : Nat) (vu vs : Value), t7 = .int .i64 i /\ i <= n /\ t6 = .slice zD P.length c6 /\ RdQ wr t6 (topTo P.length B H i) /\ wr.ownsRow U.heap.size 9 1 vu (i + 1) ((uTo (i + 1)).map fun x => Value.string x) /\ FlsV 33 wr U.heap.size vs (sTo P.length B H i) /\ BoxN wr (U.heap.size + 1) 45 [.slice pb P.length cb, vu, vs] /\ Below U.heap.size U wr /\ V.heap.size <= wr.heap.size) (fun _ t7 _ => n - (RowKit.intOf t7).toNat)
 case atStart => exact ⟨0, _, _, _, _, rfl, Nat.zero_le _, rfl, by exact RdC.below zM.out zq, yx, FlsV.nil _ _ _, bD, zq, Nat.le_refl _⟩
 case round =>
  obtain ⟨i, zD, c6, vu, vs, rfl, xK, rfl, yl, hO, z2, zt, z, xU⟩ := hrel;obtain ⟨pu, cu, rfl⟩ := oRs hO;obtain ⟨ps, cs, rfl⟩ := z2.shape;have A := zbt hT z;have zo := zG.out.below z zG.out.lt;have c5 := zF.out.below z zF.out.lt;have zC := zo.cell 11 rfl;obtain ⟨m0, m1⟩ := zk2 c5;rcases Nat.lt_or_ge i n with h | h
  ·have xL : (i : Int) < (n : Int) := by omega
   have xJ : (i : Int) < 3 := by omega
   have yh : i < H.length := by have := HN.out; omega
   obtain ⟨bh, oh, xD, x0, x1, x2, x3, x4, x5, hf, ev, d, y7, yb, y0, y1, y2, y3, y4, y5, y6⟩ := HH.out.cells yh;rw [<- HN.out] at ev;injection ev with ev1 zp ev3
   clear zp;subst ev1 ev3;replace y0 := (zcq A d y0 :);replace y1 := (zcq A d y1 :);replace y2 := (zcq A d y2 :);replace y3 := (zcq A d y3 :);replace y4 := (zcq A d y4 :);replace y5 := (zcq A d y5 :);replace y6 := (zcq A d y6 :);have zJ := hid fun w hg => m1a w pp P.length g (.slice pt (sTT k).length ct) x0 x1 x2 x3 x4 x5 hf yb y8 hg;have zL : Hid (∀ (w : World) (v : Value), RdQ w v (hFF [x0, x1, x2, x3, x4, x5] hf P.length) -> _) := fun w v hr => pb0 w v _ hr (by rw [he0]; omega) (fun q hq => Nat.le_trans (((hSz [x0, x1, x2, x3, x4, x5] hf P.length) q hq).size (by omega)) (by omega))
   have zQ : Hid ((hFF [x0, x1, x2, x3, x4, x5] hf P.length).map Rat.abs = stepF P.length (H[i]?.getD ([], false))) := by unfold Hid stepF; rw [List.getElem?_eq_getElem yh, y7]; rfl
   have zv : Good wr.drew := (hg.below A).drewN 1;have yg := zo.lt;have xO := c5.lt;have xP : bh < wr.heap.size := Nat.lt_of_lt_of_le d A.size;clear y7 yb;go_upto_region 7 with fail;go_region_held3 (fun w' => w'.cell? ⟨o2.heap.size, 0, none⟩ = some (.slice pp P.length g) /\ w'.cell? ⟨o2.heap.size, 1, none⟩ = some (.slice pt (sTT k).length ct) /\ w'.cell? ⟨w.heap.size, 11, none⟩ = some (.slice (some ⟨bh, oh, none⟩) n ch) /\ w'.cell? ⟨bh, oh + i * 7, none⟩ = some (.int .i8 x0) /\ w'.cell? ⟨bh, oh + i * 7 + 1, none⟩ = some (.int .i8 x1) /\ w'.cell? ⟨bh, oh + i * 7 + 2, none⟩ = some (.int .i8 x2) /\ w'.cell? ⟨bh, oh + i * 7 + 3, none⟩ = some (.int .i8 x3) /\ w'.cell? ⟨bh, oh + i * 7 + 4, none⟩ = some (.int .i8 x4) /\ w'.cell? ⟨bh, oh + i * 7 + 5, none⟩ = some (.int .i8 x5) /\ w'.cell? ⟨bh, oh + i * 7 + 6, none⟩ = some (.bool hf))
    (first | exact ⟨m0, m1, zC, y0, y1, y2, y3, y4, y5, y6⟩ | exact ⟨p_1_0, p_1_1, p_1_2, p_1_3, p_1_4, p_1_5, p_1_6, p_1_7, p_1_8, p_1_9⟩ | exact ⟨p_2_0, p_2_1, p_2_2, p_2_3, p_2_4, p_2_5, p_2_6, p_2_7, p_2_8, p_2_9⟩)
    (first
    | (go_at_call 38; refine (zL.out _ _ zO.out).mono ?_; rintro e R ⟨vP, rfl, yo, L⟩
       have p_2_0 := zct L p_1_0;have p_2_1 := zct L p_1_1;have p_2_2 := zct L p_1_2;have p_2_3 := zct L p_1_3;have p_2_4 := zct L p_1_4;have p_2_5 := zct L p_1_5;have p_2_6 := zct L p_1_6;have p_2_7 := zct L p_1_7;have p_2_8 := zct L p_1_8;have p_2_9 := zct L p_1_9;have xv := L.size;have xt := yy.below L;have zN := hid yo)
    | (go_at_call 10; refine (zJ.out _ zv).mono ?_; rintro e xw ⟨_, rfl, ⟨yp, _⟩, M⟩
       have p_1_0 := zct M m0;have p_1_1 := zct M m1;have p_1_2 := zct M zC;have p_1_3 := zct M y0;have p_1_4 := zct M y1;have p_1_5 := zct M y2;have p_1_6 := zct M y3;have p_1_7 := zct M y4;have p_1_8 := zct M y5;have p_1_9 := zct M y6;have xu : wr.heap.size <= xw.heap.size := M.size;have yy := zv.below M;have zO := hid yp))
   have pB : Below wr.heap.size wr R := zbt (zbt (bdN wr 1) M) L;have hF : Below U.heap.size U R := zbt z pB;have z6 := zbt hT hF;have zg := WRA hO pB;have yi := z2.below pB;have z7 := zt.bl pB;have zk : RdQ R (.slice zD P.length c6) (topTo P.length B H i) := RdC.below yl pB;have xT : wr.heap.size <= R.heap.size := pB.size;have ho : RdQ R vP (stepF P.length (H[i]?.getD ([], false))) := by rw [<- zQ.out]; exact zN.out.rd
   have yq := sFl P.length (H[i]?.getD ([], false));have zl := sFl P.length (H[i]?.getD ([], false));obtain ⟨pf, cf, rfl, -, -, -⟩ := ho.open;rw [yq] at ho ⊢;clear pB M L xu xv yy xt zv yp yo zO zN zJ zL zQ hO z2 zt yl m0 m1 zC y0 y1 y2 y3 y4 y5 y6 p_1_0 p_1_1 p_1_2 p_1_3 p_1_4 p_1_5 p_1_6 p_1_7 p_1_8 p_1_9 p_2_0 p_2_1 p_2_2 p_2_3 p_2_4 p_2_5 p_2_6 p_2_7 p_2_8 p_2_9;have zb : ∀ j (t : j < (topTo P.length B H i).length), Sz 3 (topTo P.length B H i)[j] := fun j t => s3o ((ftp P.length B H yA.out i _ (List.getElem_mem t)).mono (by omega))
   have za : ∀ j (t : j < (stepF P.length (H[i]?.getD ([], false))).length), Sz 3 (stepF P.length (H[i]?.getD ([], false)))[j] := fun j t => s3o ((fsp P.length _ _ (List.getElem_mem t)).mono (by omega))
   have yC := hid zb;have yB := hid za;have yr := zS.out i;have zK : Hid (topTo P.length B H (i + 1) = List.zipWith (·+ ·) (topTo P.length B H i) (stepF P.length (H[i]?.getD ([], false)))) := rfl;have hA := hid (zS.out (i + 1));have yH := hid (sTn P.length B H i);have hw := hid (sTl P.length B H i);generalize hZ : topTo P.length B H (i + 1) = Z at *;have yK := hid hZ;clear hZ;generalize topTo P.length B H i = top at *;generalize stepF P.length (H[i]?.getD ([], false)) = st at *;generalize y9 : sTo P.length B H (i + 1) = SZ at *;have yG := hid y9;clear y9;generalize sTo P.length B H i = SF at *;have yF := hid zk;have zP := hid ho;clear zb za yq;have z5 := hid yr;have z4 := hid zl;clear yr zl zk ho;obtain ⟨wa, xl⟩ : ∃ x, x = wr := ⟨_, rfl⟩;subst xl;go_wp2_with fail;obtain ⟨X, hX⟩ := zex (R.alloc (.cells #[] 55));have yS : Below R.heap.size R X := by rw [hX]; exact zal _ _
   have yP : X.ownsRow R.heap.size 55 1 (.slice (some ⟨R.heap.size, 0, none⟩) 0 0) 0 ([] : List Value) := by
    rw [hX];have := World.ownsRow_lit (base := R.heap.size) (e := 55) (size := 1) R #[] 0 (by simp) (by decide) rfl;simpa using this
   rw [<- hX];clear hX;go_loopw [9, 10] (fun t9 t10 wr => ∃ (j : Nat), t10 = .int .i64 j /\ j <= P.length /\ wr.ownsRow R.heap.size 55 1 t9 j (cFd (Z.take j)) /\ Below R.heap.size R wr) (fun _ t10 _ => P.length - (RowKit.intOf t10).toNat)
   case atStart => exact ⟨0, rfl, Nat.zero_le _, yP, yS⟩
   case round =>
    obtain ⟨j, rfl, xM, h3, c⟩ := hrel;obtain ⟨p9, c9, rfl⟩ := oRs h3;rcases Nat.lt_or_ge j P.length with t | t
    ·obtain ⟨b6, o6, xC, ev, yW, ye⟩ := yF.out.cells (by have := z5.out; omega)
     obtain ⟨bs, os, xE, zp, yZ, yf⟩ := zP.out.cells (by have := z4.out; omega);injection ev with ev1 ev2' ev3
     injection zp with ev4 ev5 ev6
     clear ev2' ev5;subst ev1 ev3 ev4 ev6;have z0 : j < top.length := by have := z5.out; omega
     have hY : j < st.length := by have := z4.out; omega
     have l1 := ye j z0;have u1 := yf j hY;rw [hh0 top j z0] at l1;rw [hh0 st j hY] at u1;have yI : Hid (Z.take (j + 1) = Z.take j ++ [top[j] + st[j]]) := by
      unfold Hid;have hz : j < Z.length := by have := hA.out; omega
      rw [List.take_succ_eq_append_getElem hz];congr 2;have e : Z[j]? = (List.zipWith (·+ ·) top st)[j]? := by rw [zK.out]
      rw [List.getElem?_eq_getElem hz, List.getElem?_eq_getElem (by rw [List.length_zipWith]; omega), List.getElem_zipWith] at e;exact Option.some.inj e
     have zE := hid fun w hg => rAa top[j] st[j] 3 (by decide) (by decide) (yC.out j z0) (yB.out j hY) w hg
     generalize top[j] = l at *;generalize st[j] = u at *;have xN : (j : Int) < (P.length : Int) := by omega
     have zH : Hid (∀ w', Below R.heap.size R w' -> Good w') := fun w' hb => hg.below (z6.trans (hb.mono z6.size));have hv : Hid (∀ w', Below R.heap.size R w' -> w'.cell? ⟨b6, o6 + j, none⟩ = some (.string (RS l)) /\ w'.cell? ⟨bs, os + j, none⟩ = some (.string (RS u))) := fun w' hb => ⟨(zcq hb yW l1 :), (zcq hb yZ u1 :)⟩;have z3 : Below R.heap.size R wr.drew := c.trans ((bdN wr 1).mono c.size);have zU : Below wr.heap.size wr wr.drew := bdN wr 1;have zm := WRA h3 zU;have xq := c.size;clear h3 l1 u1 ye yf z0 hY;go_upto_region 12 with fail;refine AnyL.region (S := Till 11 (fun w' => w'.cell? ⟨b6, o6 + j, none⟩ = some (.string (RS l)) /\ w'.cell? ⟨bs, os + j, none⟩ = some (.string (RS u))) (fun _ => True)) (by kernel_rfl) ?_;have Y : Till 11 (fun w' => w'.cell? ⟨b6, o6 + j, none⟩ = some (.string (RS l)) /\ w'.cell? ⟨bs, os + j, none⟩ = some (.string (RS u))) (fun _ => True) (Array.replicate 13 false) _ := ⟨hv.out _ z3, fun _ => trivial⟩;refine zlk 0 Y ?_;try simp only [Act.put]
     refine zlk 1 Y ?_;try simp only [Act.put]
     refine zlk 2 Y ?_;try simp only [Act.put]
     refine zlk 3 Y ?_;try simp only [Act.put]
     refine zlk 4 Y ?_;try simp only [Act.put]
     refine zlk 5 Y ?_;try simp only [Act.put]
     refine zlk 6 Y ?_;try simp only [Act.put]
     refine zlk 7 Y ?_;try simp only [Act.put]
     refine zlk 8 Y ?_;try simp only [Act.put]
     refine AnyL.one (i := 9) (o := _) (by kernel_rfl) rfl (fun K hK => ?_);go_simp
     (refine (zE.out _ (zH.out _ z3)).mono ?_; rintro e y1 ⟨_, rfl, rfl, hs⟩; have h4 := zbt z3 hs; have hS := WRA zm hs)
     refine hK.out _ _ ⟨hv.out _ h4, fun hk => trivial⟩ (fun Y => ?_);clear hK K;try simp only [Act.put]
     refine AnyL.one (i := 10) (o := _) (by kernel_rfl) rfl (fun K hK => ?_);go_simp;refine hK.out _ _ ⟨hv.out _ (h4.alloc h4.size _), fun hk => trivial⟩ (fun Y => ?_);clear hK K;try simp only [Act.put]
     refine AnyL.one (i := 11) (o := _) (by kernel_rfl) rfl (fun K hK => ?_)
     (rw [if_pos (by simp [Region.wanted])]; refine wp_append_own _ (.tmp 48) (.tmp 58) 33 (by rfl) R.heap.size 55 i0 (.string ⟨#[]⟩) 1 16 Tryz.underlying33 hi xm xn xo rfl (by decide) _ _ _ (by simp [Act.eval]) (hS.alloc _) ⟨y1.heap.size, 0, none⟩ 1 1 [.string (RS (l + u))] (by simp [Act.eval]) rfl (cos _ _ _) (ocs _) (by unfold maxLen; omega) (by omega) (by have := h4.size; simp; omega) ?_; intro v8 w8 hd zc _; have ym := (h4.alloc h4.size (.cells #[.string (RS (l + u))] 55)).grown zc (by have := h4.size; simp; omega) (fun j t => by have := (hS.lt j t).1; omega))
     refine hK.out _ _ ⟨hv.out _ ym, fun hk => trivial⟩ (fun Y => ?_);clear hK K;try simp only [Act.put]
     refine AnyL.take (i := 12) (oi := _) (v := ?_) rfl (by kernel_rfl) (by kernel_rfl) (by kernel_rfl) (by decide) (fun _ _ _ h => h) (Or.inl ⟨by rfl, ?_⟩) ⟨Y.1, fun hk => (by simp at hk)⟩ ?_;rotate_left
     ·intro w yV; (try dsimp only at yV); first | (go_simp; done) | (go_simp; with_reducible rfl)
     try simp only [Act.put]
     refine AnyL.done (by kernel_rfl) ?_ _;have zw : w8.ownsRow R.heap.size 55 1 v8 (j + 1) (cFd (Z.take (j + 1))) := by
      rw [yI.out];unfold cFd at hd ⊢;rw [List.map_append];exact hd
     clear zm hS zc hs h4 z3 hv zE zH zU hd;go_wp2_with fail;go_roundw
     case rel => exact ⟨j + 1, by go_num, by omega, zw, ym⟩
     case measure => simp [RowKit.intOf]; omega
    ·obtain rfl : j = P.length := by omega
     have xq := c.size;have zu : U.heap.size <= R.heap.size := hF.size;have zX : FldV wr U.heap.size (.slice p9 P.length c9) Z := by
      have h1 := h3;rw [List.take_of_length_le (by have := hA.out; omega)] at h1;have h2 : FldV wr R.heap.size (.slice p9 P.length c9) Z := by unfold FldV; rw [hA.out]; exact h1
      exact h2.base zu
     obtain ⟨us, zA, zB, yt⟩ := yi.below c;have zh := WRA zg c;have E := z7.bl c;have hG := zbt hF c;have d1 := E.cell 1 rfl;have d2 := E.cell 2 rfl;have f1 := E.frozen 1;have f2 := E.frozen 2;obtain ⟨j0, t, yu, hs, h5⟩ := info_parts iFd;rw [hw.out] at zA zB E d2;try rw [hw.out]
     clear h3 zg z7;have C := zB.alloc (.cells #[.slice p9 P.length c9] 33);have hc := zh.alloc (.cells #[.slice p9 P.length c9] 33);have hh : (wr.alloc (.cells #[.slice p9 P.length c9] 33)).ownsRow U.heap.size 55 1 (.slice p9 P.length c9) Z.length (cFd Z) := World.ownsRow.alloc zX _;have h8 := E.alloc (.cells #[.slice p9 P.length c9] 33);have hJ := hG.alloc hG.size (.cells #[.slice p9 P.length c9] 33);have yv := obN C h8 (by decide);have zT := oat hc C (by decide);have hC := oat hh C (by decide);have xz := hG.size;clear zo c5 E zX zh
     go_upto_region 14 with (at_builtin; refine wpList_append_own _ rfl _ _ 43 rfl U.heap.size 33 j0 (.slice none 0 0) 1 24 Tryz.underlying43 t yu hs h5 rfl (by decide) _ _ _ rfl C ⟨wr.heap.size, 0, none⟩ 1 1 [.slice p9 P.length c9] rfl rfl (cell_one_new _ _ _) (by intro u hu; simp at hu; subst hu; rfl) (by unfold maxLen; omega) (by omega) (by simp; omega) ?_
                             intro v3 w3 hR Q _;have z8 : Below U.heap.size U w3 := hJ.grown Q (by simp; omega) (fun j t => (C.lt j t).1);have hQ := World.ownsRow.kept hc Q zT;have N := h8.gb Q (fun e => yv e.symm);have zr := World.ownsRow.kept hh Q hC;have yL := N.cell 1 rfl;have yM := N.cell 2 rfl;have yN := N.frozen 1;have yO := N.frozen 2;obtain ⟨p3, c3, rfl⟩ := oRs hR)
     obtain ⟨y, hy⟩ := zex (w3.setCell ⟨U.heap.size + 1, 2, none⟩ (.slice p3 (i + 1) c3));have hU : w3.grownBy y (some (U.heap.size + 1)) := by rw [hy]; exact gst (grl w3 _) 2 _
     have hl : BoxN y (U.heap.size + 1) 45 [.slice pb P.length cb, .slice pu (i + 1) cu, .slice p3 (i + 1) c3] := by rw [hy]; exact N.set 2 _
     have hL : Below U.heap.size U y := by rw [hy]; exact z8.setCell (p := ⟨U.heap.size + 1, 2, none⟩) (by show U.heap.size <= U.heap.size + 1; omega) _
     have zi := World.ownsRow.kept hQ hU (.inr (fun e => obN hQ N (by decide) e.symm));have zY := World.ownsRow.kept zr hU (.inr (fun e => obN zr N (by decide) e.symm));have zd : FlsV 33 w3 U.heap.size (.slice p3 (i + 1) c3) SZ := by
      rw [yH.out];refine FlsV.snoc (us := us) (v := .slice ps i cs) (by decide) (by rw [zA, hw.out]) (by rw [hw.out]; exact C) (fun i u F a b => World.ownsRow.alloc (yt i u F a b) _) Q (by rw [hw.out]; exact hR) hh
     have ze := zd.kept hU (fun x e s n xs _ h => .inr (fun e' => obN h N (by rename_i he; rcases he with rfl | rfl <;> decide) e'.symm));rw [<- hy];have xS : U.heap.size <= y.heap.size := hL.size;have q1 := hl.cell 1 rfl;have xy := hl.frozen 1;clear hy hU zd hQ N zr z8 hR Q yL yM yN yO d1 d2 f1 f2 C hc hh h8 hJ yv zT hC zB yt zA t yu hs h5;obtain ⟨bv, yd⟩ := zex ((49 + (i + 1)).toUInt8 : UInt8);have yY : (bv.toNat : Int) = 50 + (i : Int) := by
      rw [yd];have : (49 + (i + 1)).toUInt8.toNat = 50 + i := by
       simp [Nat.toUInt8];omega
      rw [this]; omega
     have yE : Hid ((⟨#[117, bv]⟩ : ByteArray) = nameU (i + 1)) := by unfold Hid nameU; rw [yd]
     have yJ := hid (ua0 (i + 1));have xQ : IntKind.u8.wrap (i : Int) = (i : Int) := IntWalk.u8_in _ (by omega);have xR : IntKind.u8.wrap (50 + (i : Int)) = 50 + (i : Int) := IntWalk.u8_in _ (by omega);have x8 : (convert 90 9 (.slice (some ⟨y.heap.size, 0, none⟩) 2 2)).run Tryz.prog (y.alloc (.cells #[.int .u8 117, .int .u8 (50 + (i : Int))] 5)) = .ok (.string (nameU (i + 1))) (y.alloc (.cells #[.int .u8 117, .int .u8 (50 + (i : Int))] 5)) := by
      have h1 := run_convert_bytes_back (P := Tryz.prog) (y.alloc (.cells #[.int .u8 117, .int .u8 (50 + (i : Int))] 5)) 90 9 5 ⟨y.heap.size, 0, none⟩ 2 [117, bv] Tryz.underlying90 Tryz.underlying5 Tryz.underlying9 (fun j t => by
       have hb := BoxN.new y #[.int .u8 117, .int .u8 (50 + (i : Int))] 5 _ rfl
       match j, t with
       | 0, _ => exact hb.cell 0 rfl
       | 1, _ =>
         show _ = some (Value.int .u8 (bv.toNat : Int));rw [yY];exact hb.cell 1 rfl)
      rw [<- yE.out];exact h1
     generalize nameU (i + 1) = nm at *;have J := (zi.alloc (.cells #[.int .u8 117, .int .u8 (50 + (i : Int))] 5)).alloc (.cells #[.string nm] 9);obtain ⟨j1, x9, xi, xj, xk⟩ := info_parts iSg;have h9 := (hl.alloc (.cells #[.int .u8 117, .int .u8 (50 + (i : Int))] 5)).alloc (.cells #[.string nm] 9);have hM := (hL.alloc hL.size (.cells #[.int .u8 117, .int .u8 (50 + (i : Int))] 5)).alloc (by simp; omega) (.cells #[.string nm] 9);have hD := World.ownsRow.alloc (World.ownsRow.alloc zY (.cells #[.int .u8 117, .int .u8 (50 + (i : Int))] 5)) (.cells #[.string nm] 9);have hN := ze.below (((Below.refl _ _).alloc (Nat.le_refl _) (.cells #[.int .u8 117, .int .u8 (50 + (i : Int))] 5)).alloc (by simp) (.cells #[.string nm] 9));have yw := obN J h9 (by decide);have hC := oat hD J (by decide)
     go_upto_region 15 with (at_builtin; refine wpList_append_own _ rfl _ _ 42 rfl U.heap.size 9 j1 (.string ⟨#[]⟩) 1 16 Tryz.underlying42 x9 xi xj xk rfl (by decide) _ _ _ rfl J ⟨y.heap.size + 1, 0, none⟩ 1 1 [.string nm] rfl rfl (by intro j u hu; have := cell_one_new (y.alloc (.cells #[.int .u8 117, .int .u8 (50 + (i : Int))] 5)) (.string nm) 9 j u hu; simpa using this) (ocs _) (by unfold maxLen; omega) (by omega) (by simp; omega) ?_
                             intro v4 w4 hm O _;have z9 : Below U.heap.size U w4 := hM.grown O (by simp; omega) (fun j t => (J.lt j t).1);have D := h9.gb O (fun e => yw e.symm);have zs := World.ownsRow.kept hD O hC;have xx := D.cell 1 rfl;have yz := D.frozen 1;obtain ⟨p4, c4, rfl⟩ := oRs hm)
     obtain ⟨y2, h5⟩ := zex (w4.setCell ⟨U.heap.size + 1, 1, none⟩ (.slice p4 (i + 1 + 1) c4));have h0 : w4.grownBy y2 (some (U.heap.size + 1)) := by rw [h5]; exact gst (grl w4 _) 1 _
     have ya : BoxN y2 (U.heap.size + 1) 45 [.slice pb P.length cb, .slice p4 (i + 1 + 1) c4, .slice p3 (i + 1) c3] := by rw [h5]; exact D.set 1 _
     have yc : Below U.heap.size U y2 := by rw [h5]; exact z9.setCell (p := ⟨U.heap.size + 1, 1, none⟩) (by show U.heap.size <= U.heap.size + 1; omega) _
     have zj := World.ownsRow.kept hm h0 (.inr (fun e => obN hm D (by decide) e.symm));have zZ := World.ownsRow.kept zs h0 (.inr (fun e => obN zs D (by decide) e.symm));have zf := hN.kept O (fun x e s n xs he h => oat h J (by rcases he with rfl | rfl <;> decide));have yj := zf.kept h0 (fun x e s n xs he h => .inr (fun e' => obN h D (by rcases he with rfl | rfl <;> decide) e'.symm));have yU : RdQ y2 (.slice p9 P.length c9) Z := FldV.rd (B := U.heap.size) (by have h1 := zZ; exact h1);have yk : y2.ownsRow U.heap.size 9 1 (.slice p4 (i + 1 + 1) c4) (i + 1 + 1) ((uTo (i + 1 + 1)).map fun x => Value.string x) := by
      rw [yJ.out, List.map_append];exact zj
     have xp : V.heap.size <= y2.heap.size := by
      have h1 := h0.size;have h2 := O.size;simp at h2;omega
     rw [<- h5];clear h5 h0 zj zZ zf zs hm D O z9 xx yz J h9 hM hD hN yw hC zi zY ze hl q1 xy x8;go_wp2_with fail;go_roundw
     case rel => exact ⟨i + 1, p9, c9, _, _, by go_num, by omega, rfl, by rw [yK.out]; exact yU, yk, by rw [yG.out]; exact yj, ya, yc, xp⟩
     case measure => simp [RowKit.intOf]; omega
  ·obtain rfl : i = n := by omega
   have xI : ¬ (i : Int) < (i : Int) := by omega
   have h6 := bm.bl z;have m := bd.bl z;obtain ⟨g0, g1, g2⟩ := zk3 zt;obtain ⟨r0, r1⟩ := zk2 h6;obtain ⟨r2, r3, r4⟩ := zk3 m;have v5 := h6.frozen 0;have v6 := h6.frozen 1;have v7 := m.frozen 0;have v9 := m.frozen 1;have va := m.frozen 2;have xB := bd.lt;have xV : ¬ w.heap.size = U.heap.size := by omega
   have xW : ¬ w.heap.size + 1 = U.heap.size := by omega
   have xX : ¬ w.heap.size + 1 = o2.heap.size := by omega
   have xY : ¬ w.heap.size + 2 = o2.heap.size := by omega
   have xZ : ¬ w.heap.size + 1 + 1 = o2.heap.size := by omega
   have v0 : ¬ w.heap.size + 1 = U.heap.size + 1 := by omega
   have v1 : ¬ w.heap.size + 2 = U.heap.size + 1 := by omega
   have v2 : ¬ w.heap.size + 1 + 1 = U.heap.size + 1 := by omega
   go_upto_region 16 with fail;go_region;all_goals (go_wp2_with fail)
   have G : w.heap.size + 1 + 1 ≠ w.heap.size + 1 := by omega
   have xb := RdC.set5m h6 m G (RdC.below zx z) (by intro y hy e; rw [e] at hy; obtain ⟨x, -, hx⟩ := List.mem_flatMap.1 hy; simp at hx) (.slice pp P.length g) (.slice pt (sTT k).length ct) (.slice pb P.length cb) (.slice pu (i + 1) cu) (.slice ps (sTo P.length B H i).length cs);have xf := RdC.set5m h6 m G (RdC.below zz z) (by intro y hy e; rw [e] at hy; obtain ⟨x, -, hx⟩ := List.mem_flatMap.1 hy; simp at hx) (.slice pp P.length g) (.slice pt (sTT k).length ct) (.slice pb P.length cb) (.slice pu (i + 1) cu) (.slice ps (sTo P.length B H i).length cs);have yX := RdC.set5m h6 m G (RdC.below zM.out z) (by intro y hy e; rw [e] at hy; simp at hy) (.slice pp P.length g) (.slice pt (sTT k).length ct) (.slice pb P.length cb) (.slice pu (i + 1) cu) (.slice ps (sTo P.length B H i).length cs);have gA := gst (gst (grl wr (some (w.heap.size + 1))) 0 (.slice pp P.length g)) 1 (.slice pt (sTT k).length ct);have ys := World.ownsRow.kept hO gA (.inr (fun e => by have := (hO.lt _ e).1; omega));have zy := z2.kept gA (fun x e s n xs _ h => .inr (fun e => by have := (h.lt _ e).1; omega));have gB := gst (gst (gst (grl ((wr.setCell ⟨w.heap.size + 1, 0, none⟩ (.slice pp P.length g)).setCell ⟨w.heap.size + 1, 1, none⟩ (.slice pt (sTT k).length ct)) (some (w.heap.size + 1 + 1))) 0 (.slice pb P.length cb)) 1 (.slice pu (i + 1) cu)) 2 (.slice ps (sTo P.length B H i).length cs);have xg := World.ownsRow.kept ys gB (.inr (fun e => by have := (ys.lt _ e).1; omega));have xd := zy.kept gB (fun x e s n xs _ h => .inr (fun e => by have := (h.lt _ e).1; omega));have kA := bKf (i := 2) (v := .slice ps (sTo P.length B H i).length cs) (bKf (i := 1) (v := .slice pu (i + 1) cu) (bKf (i := 0) (v := .slice pb P.length cb) ((h6.set 0 (.slice pp P.length g)).set 1 (.slice pt (sTT k).length ct)) (Ne.symm G)) (Ne.symm G)) (Ne.symm G);have kB := (((bKf (i := 1) (v := .slice pt (sTT k).length ct) (bKf (i := 0) (v := .slice pp P.length g) m G) G).set 0 (.slice pb P.length cb)).set 1 (.slice pu (i + 1) cu)).set 2 (.slice ps (sTo P.length B H i).length cs);have zW := (((((A.setCell (p := ⟨w.heap.size + 1, 0, none⟩) (by show w.heap.size <= w.heap.size + 1; omega) (.slice pp P.length g)).setCell (p := ⟨w.heap.size + 1, 1, none⟩) (by show w.heap.size <= w.heap.size + 1; omega) (.slice pt (sTT k).length ct)).setCell (p := ⟨w.heap.size + 1 + 1, 0, none⟩) (by show w.heap.size <= w.heap.size + 1 + 1; omega) (.slice pb P.length cb)).setCell (p := ⟨w.heap.size + 1 + 1, 1, none⟩) (by show w.heap.size <= w.heap.size + 1 + 1; omega) (.slice pu (i + 1) cu)).setCell (p := ⟨w.heap.size + 1 + 1, 2, none⟩) (by show w.heap.size <= w.heap.size + 1 + 1; omega) (.slice ps (sTo P.length B H i).length cs));obtain ⟨t0, t1⟩ := zk2 kA;obtain ⟨t2, t3, t4⟩ := zk3 kB;have xh := (RdC.of_owns xg).drewN 1;have yQ : (uTo (i + 1)).length = i + 1 := by unfold uTo; simp
   have xe := (xd.below (bdN _ 1)).base hT.size;refine bodyPost_ret (v := .tuple #[.agg #[.slice pp P.length g, .slice pt (sTT k).length ct], .agg #[.slice pb P.length cb, .slice pu (i + 1) cu, .slice ps (sTo P.length B H i).length cs]]) (by simp [results, Tryz.results9, go_sem, t0, t1, t2, t3, t4]) rfl ⟨_, rfl, ⟨_, _, _, _, _, rfl, xb, xf, yX, by unfold RdS; rw [yQ]; exact xh, xe⟩, zW.trans ((bdN _ 1).mono zW.size)⟩
theorem fl0 (w : World) (O N M : Int) (Z : Bool) (a0 X V U S R : Int) (Q : Bool) (p : Option Addr) (n c : Nat) (L : n <= 9223372036854775807) :
 Calls Tryz.prog 8 #[.agg #[.int .u8 O, .int .i8 N, .int .i8 M, .bool Z, .int .i8 a0, .int .i8 X, .int .i8 V, .int .i8 U, .int .i8 S, .int .i8 R, .bool Q, .slice p n c]] w (Ret (fun r _ => r = .bool (decide (n <= 3))) w) := by
 have Y : Hid (decide ((n : Int) <= 3) = decide (n <= 3)) := decide_eq_decide.2 (by omega);generalize decide (n <= 3) = res at *;go_enter Tryz.func8, Tryz.ntmps8;go_wp2_with fail;go_ret;exact ⟨_, rfl, congrArg Value.bool Y.out, (Below.refl _ _).alloc (Nat.le_refl _) _⟩
theorem fa0 (w : World) (q : Rat) :
 Calls Tryz.prog 36 #[.string (RS q)] w (Ret (fun r w' => RdQ w' r [q, q, q, q]) w) := by
 generalize Z : RS q = s;have Y := hid Z;clear Z;go_enter Tryz.func36, Tryz.ntmps36;go_wp2_with fail;go_ret;exact ⟨_, rfl, RdQ.fresh w [q, q, q, q] 55 #[.string s, .string s, .string s, .string s] (by rw [<- Y.out]; rfl) (by simp) 4 rfl _ rfl, (Below.refl _ _).alloc (Nat.le_refl _) _⟩
end Go.Proofs.YtmcbeajdloaliaaGreatDoor
