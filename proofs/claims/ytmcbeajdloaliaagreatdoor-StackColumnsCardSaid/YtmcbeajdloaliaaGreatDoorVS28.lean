import Derived.Test.YtmcbeajdloaliaaGreatDoorVS23
/- stack.Check of any texts. slices.Equal at texts and at fields slices.EqualFunc at fields klippelaw28.sameField, same. rational.Abs -/
set_option maxHeartbeats 4000000
set_option maxRecDepth 100000
namespace Go.Proofs.YtmcbeajdloaliaaGreatDoor
open Go.RowKit Go.Lib
theorem uBn {U : List ByteArray} {i : Nat} (Z : i < U.length) (h : nameQ U[i] = false) : uBd U i = 8 := by unfold uBd; rw [List.getElem?_eq_getElem Z]; simp [h]
theorem uBt {U : List ByteArray} {i : Nat} (Y : i < U.length) (h : nameQ U[i] = true) (Z : hasS (U.take i) U[i] = true) : uBd U i = 9 := by unfold uBd; rw [List.getElem?_eq_getElem Y]; simp [h, Z]
theorem uBo {U : List ByteArray} {i : Nat} (Y : i < U.length) (h : nameQ U[i] = true) (Z : hasS (U.take i) U[i] = false) : uBd U i = 0 := by unfold uBd; rw [List.getElem?_eq_getElem Y]; simp [h, Z]
theorem RdS.cells {w : World} {v : Value} {l : List ByteArray} (h : RdS w v l) (V : 0 < l.length) : ∃ b o c : Nat, v = .slice (some ⟨b, o, none⟩) l.length c /\ b < w.heap.size /\ l.length <= c /\ ∀ (i : Nat) (S : i < l.length), w.cell? ⟨b, o + i, none⟩ = some (.string l[i]) := by
 obtain ⟨p, c, rfl, Z, -, U⟩ := h.open;obtain ⟨b, o, rfl, Y, X⟩ := U (List.ne_nil_of_length_pos V);exact ⟨b, o, c, rfl, Y, Z, X⟩
theorem RdS.take {w : World} {p : Option Addr} {c : Nat} {l : List ByteArray} (h : RdS w (.slice p l.length c) l) (m : Nat) (Y : m <= l.length) : RdS w (.slice p m c) (l.take m) := by
 have Z := RdC.take h m Y;rw [<- List.map_take] at Z;unfold RdS;rw [List.length_take, Nat.min_eq_left Y];exact Z
theorem rSt {w : World} {v : Value} {l : List Rat} (h : RdS w v (l.map RS)) : RdQ w v l := by
 unfold RdS at h;rw [List.length_map, List.map_map] at h;unfold RdQ;exact h
theorem fTn (b : List ByteArray) (S : List (List ByteArray)) {i : Nat} (h : i < S.length) : fldT b S (i + 1) = S[i] := by unfold fldT; rw [List.getElem?_cons_succ, List.getElem?_eq_getElem h]; rfl
theorem fe0 (b : List ByteArray) (S : List (List ByteArray)) {i : Nat} (h : i <= S.length) : fldT b S i ∈ b :: S := by
 unfold fldT;rw [List.getElem?_eq_getElem (by simp; omega)];exact List.getElem_mem _
theorem dEm {P : List PtQ} {T : List Tri} {b U : List ByteArray} {S : List (List ByteArray)} (h : T = []) : depE P T b U S = 13 := by unfold depE; rw [if_pos h]
theorem dEb {P : List PtQ} {T : List Tri} {b U : List ByteArray} {S : List (List ByteArray)} (h : T ≠ []) (Z : errF P.length b ≠ 0) : depE P T b U S = errF P.length b := by unfold depE; rw [if_neg h, if_pos Z]
theorem dEr {P : List PtQ} {T : List Tri} {b U : List ByteArray} {S : List (List ByteArray)} (h : T ≠ []) (Z : errF P.length b = 0) : depE P T b U S = if U.length = 0 then 13 else if 60 < U.length then 4 else if fEE (uBd U) U.length ≠ 0 then fEE (uBd U) U.length else if S.length + 1 ≠ U.length then 5 else fEE (sBd P.length b S) S.length := by
 conv => lhs; unfold depE
 rw [if_neg h, if_neg (by rw [Z]; decide)]
theorem sf0 (w : World) (vp vt vb vu vs : Value) (P : List PtQ) (T : List Tri) (k : Nat) (b U : List ByteArray) (S : List (List ByteArray)) (h : DepT w vp vt vb vu vs P T k b U S) (hg : Good w) :
 Calls Tryz.prog 29 #[.agg #[vp, vt], .agg #[vb, vu, vs]] w (Ret (fun r _ => r = .int .i64 (depE P T b U S)) w) := by
 have K := hid h;obtain ⟨y, A, rfl, -, -, -⟩ := h.p.open;obtain ⟨v, z, rfl, -, -, -⟩ := h.t.open;obtain ⟨pb, cb, rfl, -, -, -⟩ := h.base.open;obtain ⟨pu, cu, rfl, z3, hN, -⟩ := h.unit.open;obtain ⟨ps, cs, rfl, z2, hL⟩ := h.surf.shape;unfold maxLen at hN hL;rw [sPl] at *;obtain ⟨V, B⟩ : ∃ r, r = depE P T b U S := ⟨_, rfl⟩;rw [<- B];have HR := hid B;clear B h;by_cases hT : T = []
 ·have N : Hid (V = 13) := by unfold Hid; rw [HR.out]; exact dEm hT
  have HC : Hid (∀ w', Below w.heap.size w w' -> Calls Tryz.prog 61 #[.agg #[.slice y P.length A, .slice v T.length z]] w' (Ret (fun r _ => r = .int .i64 13) w')) := fun w' hb => by
   have O := (K.out.below hb).t;rw [hT] at O;exact cey w' _ _ P (K.out.below hb).p (by rw [hT]; exact O)
  clear HR K hT;go_enter Tryz.func29, Tryz.ntmps29;go_wp2_with fail;refine zR (HC.out _ (((Below.refl _ _).alloc (Nat.le_refl _) _).alloc (by simp) _)) fun w1 hb1 => ?_;have E : Below w.heap.size w w1 := (((Below.refl _ _).alloc (Nat.le_refl _) _).alloc (by simp) _).trans (hb1.mono (by simp; omega));go_wp2_with fail;go_ret;exact ⟨_, rfl, congrArg (Value.int .i64) N.out.symm, E⟩
 ·have HM := hid (K.out.m hT)
  have HC : Hid (∀ w', Below w.heap.size w w' -> Good w' -> Calls Tryz.prog 61 #[.agg #[.slice y P.length A, .slice v T.length z]] w' (Ret (fun r _ => r = .int .i64 0) w')) := fun w' hb hg' =>
   ca0 w' _ _ P T k (K.out.below hb).p (K.out.below hb).t HM.out hg'
  have he : Hid (∀ F ∈ b :: S, ∀ p c, ∀ w', Below w.heap.size w w' -> Good w' -> RdS w' (.slice p F.length c) F -> Calls Tryz.prog 13 #[.agg #[.slice y P.length A, .slice v T.length z], .slice p F.length c] w' (Ret (fun r _ => r = .int .i64 (errF P.length F)) w')) := fun F hF p c w' hb hg' hr =>
   fay w' _ _ _ P T k F (K.out.below hb).p (K.out.below hb).t HM.out hr (K.out.ok F hF).1 (K.out.ok F hF).2 hg'
  have hs : Hid (∀ w', Below w.heap.size w w' -> Good w' -> Calls Tryz.prog 13 #[.agg #[.slice y P.length A, .slice v T.length z], .slice pb b.length cb] w' (Ret (fun r _ => r = .int .i64 (errF P.length b)) w')) := fun w' hb hg' => he.out b (by simp) pb cb w' hb hg' (K.out.below hb).base
  go_enter Tryz.func29, Tryz.ntmps29;go_wp2_with fail;obtain ⟨W, hW⟩ := zex ((w.alloc (.cells #[.slice y P.length A, .slice v T.length z] 41)).alloc (.cells #[.slice pb b.length cb, .slice pu U.length cu, .slice ps S.length cs] 45));have hB : Below w.heap.size w W := by rw [hW]; exact zal2 _ _ _
  have b2 : BoxN W (w.heap.size + 1) 45 [.slice pb b.length cb, .slice pu U.length cu, .slice ps S.length cs] := by rw [hW]; exact BoxN.new _ _ _ _ (by simp)
  have b1 : BoxN W w.heap.size 41 [.slice y P.length A, .slice v T.length z] := by
   rw [hW];have O := (BoxN.new w #[.slice y P.length A, .slice v T.length z] 41 _ rfl);exact O.below (zal _ _) O.lt
  rw [<- hW];clear hW;refine zR (HC.out W hB (hg.below hB)) fun w1 hb1 => ?_;have E := zbt hB hb1;replace b1 := b1.bl hb1;replace b2 := b2.bl hb1;obtain ⟨d, a⟩ := zk2 b1;obtain ⟨q, o, n⟩ := zk3 b2;clear hb1 hB;go_wp2_with fail;refine zR (hs.out w1 E (hg.below E)) fun w2 hb2 => ?_;have l := zbt E hb2;replace b1 := b1.bl hb2;replace b2 := b2.bl hb2;clear d a q o n hb2 E;obtain ⟨d, a⟩ := zk2 b1;obtain ⟨q, o, n⟩ := zk3 b2;by_cases hE : errF P.length b = 0
  ·have G : Hid (V = _) := HR.out.trans (dEr hT hE)
   have hx := hid hE;rw [hE];clear HR hE;by_cases hU0 : U.length = 0
   ·have N : Hid (V = 13) := by unfold Hid; rw [G.out, if_pos hU0]
    have hz : ((U.length : Int) == 0) = true := by rw [beq_iff_eq]; omega
    clear G;go_wp2_with fail;go_ret;exact ⟨_, rfl, congrArg (Value.int .i64) N.out.symm, l⟩
   have hz : ((U.length : Int) == 0) = false := by rw [beq_eq_false_iff_ne]; omega
   by_cases hU6 : 60 < U.length
   ·have N : Hid (V = 4) := by unfold Hid; rw [G.out, if_neg hU0, if_pos hU6]
    have hP : decide ((60 : Int) < (U.length : Int)) = true := decide_eq_true (by omega);clear G;go_wp2_with fail;go_ret;exact ⟨_, rfl, congrArg (Value.int .i64) N.out.symm, l⟩
   have hP : decide ((60 : Int) < (U.length : Int)) = false := decide_eq_false (by omega);have t : Hid (V = if fEE (uBd U) U.length ≠ 0 then fEE (uBd U) U.length else if S.length + 1 ≠ U.length then 5 else fEE (sBd P.length b S) S.length) := by unfold Hid; rw [G.out, if_neg hU0, if_neg hU6]
   clear G;go_wp2_with fail;go_loopw [39] (fun t39 wr => ∃ i : Nat, t39 = .int .i64 i /\ i <= U.length /\ Hid (∀ j, j < i -> uBd U j = 0) /\ Below w2.heap.size w2 wr) (fun t39 _ => U.length - (RowKit.intOf t39).toNat)
   case atStart => exact ⟨0, rfl, Nat.zero_le _, fun j h => absurd h (by omega), Below.refl _ _⟩
   case round =>
    obtain ⟨i, rfl, hi, C, M⟩ := hrel;have g := zbt l M;have c1 := b1.bl M;have c2 := b2.bl M;have e1 := c2.cell 1 rfl;have e2 := c2.cell 2 rfl;clear d a q o n;rcases Nat.lt_or_ge i U.length with Z | Z
    ·obtain ⟨bu, ou, hZ, h9, hC, z0, Y⟩ := K.out.unit.cells (by omega)
     injection h9 with hv1 hv2 hv3
     subst hv1 hv3;have x0 := zcq g hC (Y i Z);have HI : Hid (∀ w', Calls Tryz.prog 40 #[.string U[i]] w' (Ret (fun r _ => r = .bool (nameQ U[i])) w')) := fun w' => iNa _ _;have HS : Hid (∀ w', Below w.heap.size w w' -> Calls Tryz.prog 41 #[.slice (some ⟨bu, ou, none⟩) i cu, .string U[i]] w' (Ret (fun r _ => r = .bool (hasS (U.take i) U[i])) w')) := fun w' hb => cSa _ _ _ _ (RdS.take (K.out.below hb).unit i (by omega))
     have H8 : Hid (nameQ U[i] = false -> V = 8) := fun h => by
      have O := uBn Z h;have m : fEE (uBd U) U.length = 8 := by rw [fEa Z (by rw [O]; decide) C.out, O]
      rw [t.out, if_pos (by rw [m]; decide), m]
     have H9 : Hid (nameQ U[i] = true -> hasS (U.take i) U[i] = true -> V = 9) := fun h h' => by
      have O := uBt Z h h';have m : fEE (uBd U) U.length = 9 := by rw [fEa Z (by rw [O]; decide) C.out, O]
      rw [t.out, if_pos (by rw [m]; decide), m]
     have H0 : Hid (nameQ U[i] = true -> hasS (U.take i) U[i] = false -> ∀ j, j < i + 1 -> uBd U j = 0) := fun h h' j hj => by
      rcases (by omega : j < i \/ j = i) with O | rfl
      ·exact C.out j O
      ·exact uBo Z h h'
     have hG : (i : Int) < (U.length : Int) := by omega
     have z1 : (i : Int) <= (cu : Int) := by omega
     generalize nameQ U[i] = nb at *;generalize hasS (U.take i) U[i] = hb' at *;generalize U[i] = ui at *;clear Y;go_wp2_with fail;refine zR (HI.out wr) fun w3 hb3 => ?_;have h5 := zbt g hb3;replace c2 := c2.bl hb3;have f1 := c2.cell 1 rfl;cases nb
     ·have N := hid (H8.out rfl)
      clear H8 H9 H0;go_wp2_with fail;go_ret;exact ⟨_, rfl, congrArg (Value.int .i64) N.out.symm, h5⟩
     ·go_wp2_with fail
      refine zR (HS.out w3 h5) fun w4 hb4 => ?_;have hv := zbt h5 hb4;have hn := ((zbt M hb3)).trans (hb4.mono (by have := M.size; have := hb3.size; omega));cases hb'
      ·have N := hid (H0.out trivial rfl)
       clear H8 H9 H0;go_wp2_with fail;go_roundw
       case rel => exact ⟨i + 1, by go_num, Z, N, hn⟩
       case measure => simp [RowKit.intOf]; omega
      ·have N := hid (H9.out trivial rfl)
       clear H8 H9 H0;go_wp2_with fail;go_ret;exact ⟨_, rfl, congrArg (Value.int .i64) N.out.symm, hv⟩
    ·obtain rfl : i = U.length := by omega
     have h0 : fEE (uBd U) U.length = 0 := fEn C.out;have s : Hid (V = if S.length + 1 ≠ U.length then 5 else fEE (sBd P.length b S) S.length) := by unfold Hid; rw [t.out, if_neg (by rw [h0]; simp)]
     clear t h0 C;obtain ⟨wa, hO⟩ : ∃ x, x = wr := ⟨_, rfl⟩;subst hO;by_cases hSU : S.length + 1 = U.length
     ·have h4 : Hid (V = fEE (sBd P.length b S) S.length) := by unfold Hid; rw [s.out, if_neg (by omega)]
      have hK : ((S.length : Int) != (U.length : Int) - 1) = false := by rw [bne_eq_false_iff_eq]; omega
      clear s;go_wp2_with fail;go_loopw [67] (fun t67 wr => ∃ i : Nat, t67 = .int .i64 i /\ i <= S.length /\ Hid (∀ j, j < i -> sBd P.length b S j = 0) /\ Below wa.heap.size wa wr) (fun t67 _ => S.length - (RowKit.intOf t67).toNat)
      case atStart => exact ⟨0, rfl, Nat.zero_le _, fun j h => absurd h (by omega), Below.refl _ _⟩
      case round =>
       obtain ⟨i, rfl, hi, C, M⟩ := hrel;have X := zbt g M;replace c1 := c1.bl M;replace c2 := c2.bl M;clear e1 e2;obtain ⟨d, a⟩ := zk2 c1;obtain ⟨q, o, n⟩ := zk3 c2;have hH := c1.lt;have hJ := c2.lt;rcases Nat.lt_or_ge i S.length with Z | Z
       ·obtain ⟨bs, os, hY, h9, hA, Y⟩ := K.out.surf.cells (by omega)
        injection h9 with hv1 hv2 hv3
        subst hv1 hv3;obtain ⟨pg, cg, h7, f⟩ := Y i Z;have x0 := zcq X hA h7;have H : S[i] ∈ b :: S := List.mem_cons_of_mem _ (List.getElem_mem Z);have h3 : Hid (∀ w', Below w.heap.size w w' -> Good w' -> Calls Tryz.prog 13 #[.agg #[.slice y P.length A, .slice v T.length z], .slice pg S[i].length cg] w' (Ret (fun r _ => r = .int .i64 (errF P.length S[i])) w')) := fun w' hb hg' => he.out S[i] H pg cg w' hb hg' (RdC.below f hb);have hG : (i : Int) < (S.length : Int) := by omega
        by_cases hE : errF P.length S[i] = 0
        ·have hf : errF P.length (fldT b S i) = 0 := by
                    rcases Nat.eq_zero_or_pos i with h0 | h0
                    ·subst h0; exact hx.out
                    ·have O := C.out (i - 1) (by omega)
                     unfold sBd at O;rw [show i - 1 + 1 = i by omega] at O;by_cases m : errF P.length (fldT b S i) = 0
                     ·exact m
                     ·rw [if_pos m] at O; exact absurd O m
         obtain ⟨R, hR, hl, hm⟩ := K.out.num (fldT b S i) (fe0 b S hi) hf;obtain ⟨Q, hQ, hh, hk⟩ := K.out.num S[i] H hE;obtain ⟨pf, cf, hq, I⟩ := sh0 w _ _ _ b U S K.out.base K.out.unit K.out.surf i hi;have hu := hid I
         have ht : Hid (∀ w', Below w.heap.size w w' -> Good w' -> Calls Tryz.prog 63 #[.agg #[.slice y P.length A, .slice v T.length z], .slice pf (fldT b S i).length cf, .slice pg S[i].length cg] w' (Ret (fun r _ => r = .tuple #[.bool (belowB R Q), .int .i64 0]) w')) := fun w' hb hg' => by
                    have q1 : RdQ w' (.slice pf (fldT b S i).length cf) R := rSt (by rw [<- hR]; exact RdC.below hq hb);have q2 : RdQ w' (.slice pg S[i].length cg) Q := rSt (by rw [<- hQ]; exact RdC.below f hb);have hd := K.out.below hb;exact fk0 w' _ _ _ _ P T k R Q ⟨hd.p, hd.t, HM.out, q1, hm, hl⟩ ⟨hd.p, hd.t, HM.out, q2, hk, hh⟩ hg'
         have h8 : sBd P.length b S i = if belowB R Q then 0 else 6 := by
                    unfold sBd;rw [fTn b S Z, if_neg (by rw [hE]; decide), hR, hQ, nTm, nTm]
         have H6 : Hid (belowB R Q = false -> V = 6) := fun h => by
                    have O : sBd P.length b S i = 6 := by rw [h8, h]; rfl
                    rw [h4.out, fEa Z (by rw [O]; decide) C.out, O]
         have H0 : Hid (belowB R Q = true -> ∀ j, j < i + 1 -> sBd P.length b S j = 0) := fun h j hj => by
                    rcases (by omega : j < i \/ j = i) with O | rfl
                    ·exact C.out j O
                    ·rw [h8, h]; rfl
         rw [hE] at h3;clear h8 hm hk hR hQ hl hh hq f I h7 Y hf hE H;generalize belowB R Q = bq at *;generalize (fldT b S i).length = fl at *;generalize S[i].length = gl at *;go_wp2_with fail;refine zR (h3.out wr X (hg.below X)) fun w5 hb5 => ?_;have D := X.trans (hb5.mono X.size);have ho := zbt M hb5;replace c1 := c1.bl hb5;replace c2 := c2.bl hb5;clear d a q o n x0;obtain ⟨d, a⟩ := zk2 c1;obtain ⟨q, o, n⟩ := zk3 c2;have hH := c1.lt;have hJ := c2.lt;have hD : Good w5.drew := (hg.below D).drewN 1;have h6 : Below w.heap.size w w5.drew := D.trans ((bdN w5 1).mono D.size);have hM : w.heap.size <= w5.drew.heap.size := h6.size;go_upto_region 27 with fail
         go_region_held3 (fun w' => w'.cell? ⟨w.heap.size, 0, none⟩ = some (.slice y P.length A) /\ w'.cell? ⟨w.heap.size, 1, none⟩ = some (.slice v T.length z) /\ w'.cell? ⟨w.heap.size + 1, 0, none⟩ = some (.slice pb b.length cb) /\ w'.cell? ⟨w.heap.size + 1, 1, none⟩ = some (.slice pu U.length cu) /\ w'.cell? ⟨w.heap.size + 1, 2, none⟩ = some (.slice (some ⟨bs, os, none⟩) S.length cs))
                    (first | exact ⟨d, a, q, o, n⟩ | exact ⟨p_1_0, p_1_1, p_1_2, p_1_3, p_1_4⟩ | exact ⟨p_2_0, p_2_1, p_2_2, p_2_3, p_2_4⟩)
                    (first
                    | (go_at_call 63; refine (ht.out _ (h6.trans (L.mono hM)) ha).mono ?_; rintro e hc ⟨_, rfl, rfl, J⟩
                       have p_2_0 := zct J p_1_0;have p_2_1 := zct J p_1_1;have p_2_2 := zct J p_1_2;have p_2_3 := zct J p_1_3;have p_2_4 := zct J p_1_4;have hV := J.size;have hS := ha.below J)
                    | (go_at_call 48; refine (hu.out _ h6).mono ?_; rintro e hX ⟨_, rfl, rfl, L⟩
                       have p_1_0 := zct L d;have p_1_1 := zct L a;have p_1_2 := zct L q;have p_1_3 := zct L o;have p_1_4 := zct L n;have hU : w5.heap.size <= hX.heap.size := L.size;have ha := hD.below L))
         have pB : Below w5.heap.size w5 hc := zbt (zbt (bdN w5 1) L) J;have hp : Below wa.heap.size wa hc := zbt ho pB;have hw : Below w.heap.size w hc := zbt D pB;clear pB L J hU hV ha hS d a q o n;cases bq
         ·have N := hid (H6.out rfl)
          clear H6 H0;go_wp2_with fail;go_ret;exact ⟨_, rfl, congrArg (Value.int .i64) N.out.symm, hw⟩
         ·have N := hid (H0.out rfl)
          clear H6 H0;go_wp2_with fail;go_roundw
          case rel => exact ⟨i + 1, by go_num, Z, N, hp⟩
          case measure => simp [RowKit.intOf]; omega
        ·have N : Hid (V = errF P.length S[i]) := by
                    have O : sBd P.length b S i = errF P.length S[i] := by unfold sBd; rw [fTn b S Z, if_pos hE]
                    unfold Hid;rw [h4.out, fEa Z (by rw [O]; exact hE) C.out, O]
         have hy : (errF P.length S[i] != 0) = true := by rw [bne_iff_ne]; exact hE
         generalize errF P.length S[i] = ez at *;generalize S[i].length = gl at *;clear Y h7 f H;go_wp2_with fail;refine zR (h3.out wr X (hg.below X)) fun w5 hb5 => ?_;have D := X.trans (hb5.mono X.size);go_wp2_with fail;go_ret;exact ⟨_, rfl, congrArg (Value.int .i64) N.out.symm, D⟩
       ·obtain rfl : i = S.length := by omega
        have N : Hid (V = 0) := by unfold Hid; rw [h4.out]; exact fEn C.out
        go_wp2_with fail;go_ret;exact ⟨_, rfl, congrArg (Value.int .i64) N.out.symm, X⟩
     ·have N : Hid (V = 5) := by unfold Hid; rw [s.out, if_pos (by omega)]
      have hK : ((S.length : Int) != (U.length : Int) - 1) = true := by rw [bne_iff_ne]; omega
      clear s;go_wp2_with fail;go_ret;exact ⟨_, rfl, congrArg (Value.int .i64) N.out.symm, g⟩
  ·have N : Hid (V = errF P.length b) := HR.out.trans (dEb hT hE)
   have hy : (errF P.length b != 0) = true := by rw [bne_iff_ne]; exact hE
   clear HR;generalize errF P.length b = ez at *;go_wp2_with fail;go_ret;exact ⟨_, rfl, congrArg (Value.int .i64) N.out.symm, l⟩
theorem lse {α : Type} {l m : List α} (h : l.length = m.length) (Z : ∀ j (Y : j < l.length) (X : j < m.length), l[j] = m[j]) : l = m := List.ext_getElem h Z
theorem lnt {α : Type} {l m : List α} {i : Nat} (Z : i < l.length) (Y : i < m.length) (h : l[i] ≠ m[i]) : l ≠ m := fun e => h (by subst e; rfl)
theorem eSa (v u : Value) (l m : List ByteArray) (w : World) (h : RdS w v l) (V : RdS w u m) :
 Calls Tryz.prog 76 #[v, u] w (Ret (fun r _ => r = .bool (decide (l = m))) w) := by
 obtain ⟨p1, c1, rfl, z, y, I⟩ := h.open;obtain ⟨p2, c2, rfl, K, x, H⟩ := V.open;unfold maxLen at y x;have q := hid I;have p := hid H;obtain ⟨N, X⟩ : ∃ r, r = decide (l = m) := ⟨_, rfl⟩;rw [<- X];have G := hid X;clear I H h V X;by_cases hl : l.length = m.length
 ·have O : ((l.length : Int) != (m.length : Int)) = false := by rw [bne_eq_false_iff_eq]; omega
  have k := hid hl;obtain ⟨n, t⟩ := zex (l.length);have E : Hid (n = l.length) := t;have J : m.length = n := by omega
  rw [J] at O K ⊢;rw [<- t] at O z ⊢;clear hl t J;go_enter Tryz.func76, Tryz.ntmps76;go_wp2_with fail;go_loopw [13] (fun t13 wr => ∃ i : Nat, t13 = .int .i64 i /\ i <= n /\ Hid (∀ j (_ : j < i) (h1 : j < l.length) (V : j < m.length), l[j] = m[j]) /\ Below w.heap.size w wr) (fun t13 _ => n - (RowKit.intOf t13).toNat)
  case atStart => exact ⟨0, rfl, Nat.zero_le _, fun j h => absurd h (by omega), Below.refl _ _⟩
  case round =>
   obtain ⟨i, rfl, hi, o, Z⟩ := hrel;rcases Nat.lt_or_ge i n with h | h
   ·have S : i < l.length := by have := E.out; omega
    have R : i < m.length := by have := E.out; have := k.out; omega
    obtain ⟨b1, o1, rfl, B, M⟩ := q.out (List.ne_nil_of_length_pos (by omega));obtain ⟨b, o2, rfl, A, L⟩ := p.out (List.ne_nil_of_length_pos (by omega));have x1 := zcq Z B (M i S);have x2 := zcq Z A (L i R);have f := hid (bse l[i] m[i]);have C : Hid (l[i] = m[i] -> ∀ j (_ : j < i + 1) (h1 : j < l.length) (V : j < m.length), l[j] = m[j]) := fun he j hj h1 V => by
     rcases Nat.lt_or_ge j i with g | g
     ·exact o.out j g h1 V
     ·obtain rfl : j = i := by omega
      exact he
    have D : Hid (l[i] ≠ m[i] -> false = N) := fun he => by rw [G.out]; exact (decide_eq_false (lnt S R he)).symm
    generalize l[i] = q1 at *;generalize m[i] = q2 at *;have c : (i : Int) < (n : Int) := by omega
    clear M L S R;go_upto_region 6 with fail;rcases f.out with ⟨e, d⟩ | ⟨e, d, a⟩
    ·have U := hid (C.out e)
     clear e;go_quiet (fail);obtain ⟨s, Y⟩ := zex (wr.drewN nq);have Q : Below w.heap.size w s := by rw [Y]; exact Z.trans ((bdN wr nq).mono Z.size)
     rw [<- Y];clear Y x1 x2;go_wp2_with fail;go_roundw
     case rel => exact ⟨i + 1, by go_num, by omega, U, Q⟩
     case measure => simp [RowKit.intOf]; omega
    ·have U := hid (D.out e)
     clear e;go_quiet (fail);obtain ⟨s, Y⟩ := zex (wr.drewN nq);have Q : Below w.heap.size w s := by rw [Y]; exact Z.trans ((bdN wr nq).mono Z.size)
     rw [<- Y];clear Y x1 x2;go_wp2_with fail;go_ret;exact ⟨_, rfl, congrArg Value.bool U.out, Q⟩
   ·obtain rfl : i = n := by omega
    have U : Hid (true = N) := by unfold Hid; rw [G.out]; exact (decide_eq_true (lse k.out (fun j h1 V => o.out j (by have := E.out; omega) h1 V))).symm
    go_wp2_with fail;go_ret;exact ⟨_, rfl, congrArg Value.bool U.out, Z⟩
 ·have O : ((l.length : Int) != (m.length : Int)) = true := by rw [bne_iff_ne]; omega
  have U : Hid (false = N) := by unfold Hid; rw [G.out]; exact (decide_eq_false (fun e => hl (by rw [e]))).symm
  clear G q p;go_enter Tryz.func76, Tryz.ntmps76;go_wp2_with fail;go_ret;exact ⟨_, rfl, congrArg Value.bool U.out, Below.refl _ _⟩
theorem eRa (v u : Value) (l m : List ByteArray) (w : World) (h : RdS w v l) (V : RdS w u m) :
 Calls Tryz.prog 120 #[v, u] w (Ret (fun r _ => r = .bool (decide (l = m))) w) := by
 obtain ⟨p1, c1, rfl, z, y, I⟩ := h.open;obtain ⟨p2, c2, rfl, K, x, H⟩ := V.open;unfold maxLen at y x;have q := hid I;have p := hid H;obtain ⟨N, X⟩ : ∃ r, r = decide (l = m) := ⟨_, rfl⟩;rw [<- X];have G := hid X;clear I H h V X;by_cases hl : l.length = m.length
 ·have O : ((l.length : Int) != (m.length : Int)) = false := by rw [bne_eq_false_iff_eq]; omega
  have k := hid hl;obtain ⟨n, t⟩ := zex (l.length);have E : Hid (n = l.length) := t;have J : m.length = n := by omega
  rw [J] at O K ⊢;rw [<- t] at O z ⊢;clear hl t J;go_enter Tryz.func120, Tryz.ntmps120;go_wp2_with fail;go_loopw [13] (fun t13 wr => ∃ i : Nat, t13 = .int .i64 i /\ i <= n /\ Hid (∀ j (_ : j < i) (h1 : j < l.length) (V : j < m.length), l[j] = m[j]) /\ Below w.heap.size w wr) (fun t13 _ => n - (RowKit.intOf t13).toNat)
  case atStart => exact ⟨0, rfl, Nat.zero_le _, fun j h => absurd h (by omega), Below.refl _ _⟩
  case round =>
   obtain ⟨i, rfl, hi, o, Z⟩ := hrel;rcases Nat.lt_or_ge i n with h | h
   ·have S : i < l.length := by have := E.out; omega
    have R : i < m.length := by have := E.out; have := k.out; omega
    obtain ⟨b1, o1, rfl, B, M⟩ := q.out (List.ne_nil_of_length_pos (by omega));obtain ⟨b, o2, rfl, A, L⟩ := p.out (List.ne_nil_of_length_pos (by omega));have x1 := zcq Z B (M i S);have x2 := zcq Z A (L i R);have f := hid (bse l[i] m[i]);have C : Hid (l[i] = m[i] -> ∀ j (_ : j < i + 1) (h1 : j < l.length) (V : j < m.length), l[j] = m[j]) := fun he j hj h1 V => by
     rcases Nat.lt_or_ge j i with g | g
     ·exact o.out j g h1 V
     ·obtain rfl : j = i := by omega
      exact he
    have D : Hid (l[i] ≠ m[i] -> false = N) := fun he => by rw [G.out]; exact (decide_eq_false (lnt S R he)).symm
    generalize l[i] = q1 at *;generalize m[i] = q2 at *;have c : (i : Int) < (n : Int) := by omega
    clear M L S R;go_upto_region 6 with fail;rcases f.out with ⟨e, d⟩ | ⟨e, d, a⟩
    ·have U := hid (C.out e)
     clear e;go_quiet (fail);obtain ⟨s, Y⟩ := zex (wr.drewN nq);have Q : Below w.heap.size w s := by rw [Y]; exact Z.trans ((bdN wr nq).mono Z.size)
     rw [<- Y];clear Y x1 x2;go_wp2_with fail;go_roundw
     case rel => exact ⟨i + 1, by go_num, by omega, U, Q⟩
     case measure => simp [RowKit.intOf]; omega
    ·have U := hid (D.out e)
     clear e;go_quiet (fail);obtain ⟨s, Y⟩ := zex (wr.drewN nq);have Q : Below w.heap.size w s := by rw [Y]; exact Z.trans ((bdN wr nq).mono Z.size)
     rw [<- Y];clear Y x1 x2;go_wp2_with fail;go_ret;exact ⟨_, rfl, congrArg Value.bool U.out, Q⟩
   ·obtain rfl : i = n := by omega
    have U : Hid (true = N) := by unfold Hid; rw [G.out]; exact (decide_eq_true (lse k.out (fun j h1 V => o.out j (by have := E.out; omega) h1 V))).symm
    go_wp2_with fail;go_ret;exact ⟨_, rfl, congrArg Value.bool U.out, Z⟩
 ·have O : ((l.length : Int) != (m.length : Int)) = true := by rw [bne_iff_ne]; omega
  have U : Hid (false = N) := by unfold Hid; rw [G.out]; exact (decide_eq_false (fun e => hl (by rw [e]))).symm
  clear G q p;go_enter Tryz.func120, Tryz.ntmps120;go_wp2_with fail;go_ret;exact ⟨_, rfl, congrArg Value.bool U.out, Below.refl _ _⟩
theorem fc0 (v u : Value) (l m : List ByteArray) (w : World) (h : RdS w v l) (Y : RdS w u m) :
 Calls Tryz.prog 75 #[v, u] w (Ret (fun r _ => r = .bool (decide (l = m))) w) := by
 have X := hid (eRa v u l m w h Y);generalize decide (l = m) = z at *;clear h Y;go_enter Tryz.func75, Tryz.ntmps75;go_wp2_with fail;refine X.out.mono ?_;rintro e V ⟨_, rfl, rfl, Z⟩;go_wp2_with fail;go_ret;exact ⟨_, rfl, rfl, Z⟩
theorem eFa (v u : Value) (l m : List (List ByteArray)) (w : World) (h : RdTx w v l) (X : RdTx w u m) :
 Calls Tryz.prog 77 #[v, u, .func (.func 75) #[] #[]] w (Ret (fun r _ => r = .bool (decide (l = m))) w) := by
 obtain ⟨p1, c1, rfl, s, q⟩ := h.shape;obtain ⟨p2, c2, rfl, J, p⟩ := X.shape;unfold maxLen at q p;have C := hid h;have B := hid X;obtain ⟨N, Y⟩ : ∃ r, r = decide (l = m) := ⟨_, rfl⟩;rw [<- Y];have D := hid Y;clear h X Y;by_cases hl : l.length = m.length
 ·have O : ((l.length : Int) != (m.length : Int)) = false := by rw [bne_eq_false_iff_eq]; omega
  have g := hid hl;obtain ⟨n, o⟩ := zex (l.length);have z : Hid (n = l.length) := o;have I : m.length = n := by omega
  rw [I] at O J B ⊢;rw [<- o] at O s C ⊢;clear hl o I;go_enter Tryz.func77, Tryz.ntmps77;go_wp2_with fail;go_loopw [17] (fun t17 wr => ∃ i : Nat, t17 = .int .i64 i /\ i <= n /\ Hid (∀ j (_ : j < i) (h1 : j < l.length) (X : j < m.length), l[j] = m[j]) /\ Below w.heap.size w wr) (fun t17 _ => n - (RowKit.intOf t17).toNat)
  case atStart => exact ⟨0, rfl, Nat.zero_le _, fun j h => absurd h (by omega), Below.refl _ _⟩
  case round =>
   obtain ⟨i, rfl, hi, k, Z⟩ := hrel;rcases Nat.lt_or_ge i n with h | h
   ·have R : i < l.length := by have := z.out; omega
    have Q : i < m.length := by have := z.out; have := g.out; omega
    obtain ⟨b1, o1, b, e1, y, L⟩ := C.out.cells (by omega);obtain ⟨b2, o2, a, e2, x, K⟩ := B.out.cells (by omega);injection e1 with e11 e12 e13
    injection e2 with e21 e22 e23
    clear e12 e22;subst e11 e13 e21 e23;obtain ⟨pa, ca, d, H⟩ := L i R;obtain ⟨pb, cb, c, G⟩ := K i Q;have x1 := zcq Z y d;have x2 := zcq Z x c;have M := hid (fc0 _ _ _ _ wr (RdC.below H Z) (RdC.below G Z));have S : Hid (l[i] = m[i] -> ∀ j (_ : j < i + 1) (h1 : j < l.length) (X : j < m.length), l[j] = m[j]) := fun he j hj h1 X => by
     rcases Nat.lt_or_ge j i with f | f
     ·exact k.out j f h1 X
     ·obtain rfl : j = i := by omega
      exact he
    have U : Hid (l[i] ≠ m[i] -> false = N) := fun he => by rw [D.out]; exact (decide_eq_false (lnt R Q he)).symm
    have E : Hid ((decide (l[i] = m[i]) = true -> l[i] = m[i]) /\ (decide (l[i] = m[i]) = false -> l[i] ≠ m[i])) := ⟨of_decide_eq_true, of_decide_eq_false⟩;generalize l[i] = q1 at *;generalize m[i] = q2 at *;generalize decide (q1 = q2) = bq at *;generalize q1.length = n1 at *;generalize q2.length = n2 at *;have h0 : (i : Int) < (n : Int) := by omega
    clear L K R Q H G d c;go_wp2_with fail;refine M.out.mono ?_;rintro e w3 ⟨_, rfl, rfl, t⟩;have V := zbt Z t;cases bq
    ·have A := hid (U.out (E.out.2 rfl))
     clear U E S;go_wp2_with fail;go_ret;exact ⟨_, rfl, congrArg Value.bool A.out, V⟩
    ·have A := hid (S.out (E.out.1 rfl))
     clear U E S;go_wp2_with fail;go_roundw
     case rel => exact ⟨i + 1, by go_num, by omega, A, V⟩
     case measure => simp [RowKit.intOf]; omega
   ·obtain rfl : i = n := by omega
    have M : Hid (true = N) := by unfold Hid; rw [D.out]; exact (decide_eq_true (lse g.out (fun j h1 X => k.out j (by have := z.out; omega) h1 X))).symm
    go_wp2_with fail;go_ret;exact ⟨_, rfl, congrArg Value.bool M.out, Z⟩
 ·have O : ((l.length : Int) != (m.length : Int)) = true := by rw [bne_iff_ne]; omega
  have M : Hid (false = N) := by unfold Hid; rw [D.out]; exact (decide_eq_false (fun e => hl (by rw [e]))).symm
  clear D C B;go_enter Tryz.func77, Tryz.ntmps77;go_wp2_with fail;go_ret;exact ⟨_, rfl, congrArg Value.bool M.out, Below.refl _ _⟩
structure DepR (w : World) (vb vu vs : Value) (b : List ByteArray) (U : List ByteArray) (S : List (List ByteArray)) : Prop where
 base : RdS w vb b
 unit : RdS w vu U
 surf : RdTx w vs S
theorem DepR.below {w w' : World} {vb vu vs : Value} {b U : List ByteArray} {S : List (List ByteArray)} (h : DepR w vb vu vs b U S) (Z : Below w.heap.size w w') : DepR w' vb vu vs b U S :=
 ⟨RdC.below h.base Z, RdC.below h.unit Z, h.surf.below Z⟩
theorem DepR.open {w : World} {vb vu vs : Value} {b U : List ByteArray} {S : List (List ByteArray)} (h : DepR w vb vu vs b U S) : ∃ X Z R Y V cs, vb = .slice X b.length Z /\ vu = .slice R U.length Y /\ vs = .slice V S.length cs := by
 obtain ⟨X, Z, Q, -, -, -⟩ := h.base.open;obtain ⟨R, Y, O, -, -, -⟩ := h.unit.open;obtain ⟨V, cs, N, -, -⟩ := h.surf.shape;exact ⟨X, Z, R, Y, V, cs, Q, O, N⟩
theorem sEa (w : World) (p n o G D E : Value) (b U b' X : List ByteArray) (S Y : List (List ByteArray)) (h : DepR w p n o b U S) (y : DepR w G D E b' X Y) :
 Calls Tryz.prog 37 #[.agg #[p, n, o], .agg #[G, D, E]] w (Ret (fun r _ => r = .bool (decide (b = b' /\ U = X /\ S = Y))) w) := by
 have C := hid h;have Z := hid y;obtain ⟨v, A, s, z, t, cs, rfl, rfl, rfl⟩ := h.open;obtain ⟨J, N, H, L, I, M, rfl, rfl, rfl⟩ := y.open;have m : Hid (∀ w', Below w.heap.size w w' -> _) := fun w' hb => fc0 _ _ _ _ w' (C.out.below hb).base (Z.out.below hb).base;have l : Hid (∀ w', Below w.heap.size w w' -> _) := fun w' hb => eSa _ _ _ _ w' (C.out.below hb).unit (Z.out.below hb).unit;have k : Hid (∀ w', Below w.heap.size w w' -> _) := fun w' hb => eFa _ _ _ _ w' (C.out.below hb).surf (Z.out.below hb).surf;have Q : Hid (decide (b = b' /\ U = X /\ S = Y) = (decide (b = b') && (decide (U = X) && decide (S = Y)))) := by
  unfold Hid;by_cases B : b = b' <;> by_cases h2 : U = X <;> by_cases h3 : S = Y <;> simp [B, h2, h3]
 generalize decide (b = b' /\ U = X /\ S = Y) = res at *;generalize decide (b = b') = r1 at *;generalize decide (U = X) = r2 at *;generalize decide (S = Y) = r3 at *;generalize b.length = lb at *;generalize b'.length = lb' at *;generalize U.length = lu at *;generalize X.length = lu' at *;generalize S.length = ls at *;generalize Y.length = ls' at *;clear h y C Z;go_enter Tryz.func37, Tryz.ntmps37;go_wp2_with fail;obtain ⟨W, K⟩ := zex ((w.alloc (.cells #[.slice v lb A, .slice s lu z, .slice t ls cs] 45)).alloc (.cells #[.slice J lb' N, .slice H lu' L, .slice I ls' M] 45));have q : Below w.heap.size w W := by rw [K]; exact zal2 _ _ _
 have c2 : BoxN W (w.heap.size + 1) 45 [.slice J lb' N, .slice H lu' L, .slice I ls' M] := by rw [K]; exact BoxN.new _ _ _ _ (by simp)
 have c1 : BoxN W w.heap.size 45 [.slice v lb A, .slice s lu z, .slice t ls cs] := by
  rw [K];have B := (BoxN.new w #[.slice v lb A, .slice s lu z, .slice t ls cs] 45 _ rfl);exact B.below (zal _ _) B.lt
 have a0 := c1.cell 0 rfl;have i := c2.cell 0 rfl;rw [<- K];clear K;refine zR (m.out W q) fun w1 hb1 => ?_;have V := zbt q hb1;replace c1 := c1.bl hb1;replace c2 := c2.bl hb1;clear a0 i;have j := c1.cell 1 rfl;have b1 := c2.cell 1 rfl;cases r1
 ·have O : Hid (res = false) := Q.out
  clear Q;go_wp2_with fail;go_ret;exact ⟨_, rfl, congrArg Value.bool O.out.symm, V⟩
 ·go_wp2_with fail
  refine zR (l.out w1 V) fun w2 hb2 => ?_;have R := zbt V hb2;replace c1 := c1.bl hb2;replace c2 := c2.bl hb2;clear j b1;have g := c1.cell 2 rfl;have f := c2.cell 2 rfl;cases r2
  ·have O : Hid (res = false) := Q.out
   clear Q;go_wp2_with fail;go_ret;exact ⟨_, rfl, congrArg Value.bool O.out.symm, R⟩
  ·go_wp2_with fail
   refine zR (k.out w2 R) fun w3 hb3 => ?_;have x := zbt R hb3;have O : Hid (res = r3) := by unfold Hid; rw [Q.out]; simp
   clear Q;go_wp2_with fail;go_ret;exact ⟨_, rfl, congrArg Value.bool O.out.symm, x⟩
theorem sFa (v u : Value) (l m : List ByteArray) (w : World) (h : RdS w v l) (V : RdS w u m) :
 Calls Tryz.prog 19 #[v, u] w (Ret (fun r _ => r = .bool (decide (l = m))) w) := by
 obtain ⟨p1, c1, rfl, z, y, I⟩ := h.open;obtain ⟨p2, c2, rfl, K, x, H⟩ := V.open;unfold maxLen at y x;have q := hid I;have p := hid H;obtain ⟨N, X⟩ : ∃ r, r = decide (l = m) := ⟨_, rfl⟩;rw [<- X];have G := hid X;clear I H h V X;by_cases hl : l.length = m.length
 ·have O : ((l.length : Int) != (m.length : Int)) = false := by rw [bne_eq_false_iff_eq]; omega
  have k := hid hl;obtain ⟨n, t⟩ := zex (l.length);have E : Hid (n = l.length) := t;have J : m.length = n := by omega
  rw [J] at O K ⊢;rw [<- t] at O z ⊢;clear hl t J;go_enter Tryz.func19, Tryz.ntmps19;go_wp2_with fail;go_loopw [5] (fun t5 wr => ∃ i : Nat, t5 = .int .i64 i /\ i <= n /\ Hid (∀ j (_ : j < i) (h1 : j < l.length) (V : j < m.length), l[j] = m[j]) /\ Below w.heap.size w wr) (fun t5 _ => n - (RowKit.intOf t5).toNat)
  case atStart => exact ⟨0, rfl, Nat.zero_le _, fun j h => absurd h (by omega), Below.refl _ _⟩
  case round =>
   obtain ⟨i, rfl, hi, o, Z⟩ := hrel;rcases Nat.lt_or_ge i n with h | h
   ·have S : i < l.length := by have := E.out; omega
    have R : i < m.length := by have := E.out; have := k.out; omega
    obtain ⟨b1, o1, rfl, B, M⟩ := q.out (List.ne_nil_of_length_pos (by omega));obtain ⟨b, o2, rfl, A, L⟩ := p.out (List.ne_nil_of_length_pos (by omega));have x1 := zcq Z B (M i S);have x2 := zcq Z A (L i R);have f := hid (bse l[i] m[i]);have C : Hid (l[i] = m[i] -> ∀ j (_ : j < i + 1) (h1 : j < l.length) (V : j < m.length), l[j] = m[j]) := fun he j hj h1 V => by
     rcases Nat.lt_or_ge j i with g | g
     ·exact o.out j g h1 V
     ·obtain rfl : j = i := by omega
      exact he
    have D : Hid (l[i] ≠ m[i] -> false = N) := fun he => by rw [G.out]; exact (decide_eq_false (lnt S R he)).symm
    generalize l[i] = q1 at *;generalize m[i] = q2 at *;have c : (i : Int) < (n : Int) := by omega
    clear M L S R;go_upto_region 6 with fail;rcases f.out with ⟨e, d⟩ | ⟨e, d, a⟩
    ·have U := hid (C.out e)
     clear e;go_quiet (fail);obtain ⟨s, Y⟩ := zex (wr.drewN nq);have Q : Below w.heap.size w s := by rw [Y]; exact Z.trans ((bdN wr nq).mono Z.size)
     rw [<- Y];clear Y x1 x2;go_wp2_with fail;go_roundw
     case rel => exact ⟨i + 1, by go_num, by omega, U, Q⟩
     case measure => simp [RowKit.intOf]; omega
    ·have U := hid (D.out e)
     clear e;go_quiet (fail);obtain ⟨s, Y⟩ := zex (wr.drewN nq);have Q : Below w.heap.size w s := by rw [Y]; exact Z.trans ((bdN wr nq).mono Z.size)
     rw [<- Y];clear Y x1 x2;go_wp2_with fail;go_ret;exact ⟨_, rfl, congrArg Value.bool U.out, Q⟩
   ·obtain rfl : i = n := by omega
    have U : Hid (true = N) := by unfold Hid; rw [G.out]; exact (decide_eq_true (lse k.out (fun j h1 V => o.out j (by have := E.out; omega) h1 V))).symm
    go_wp2_with fail;go_ret;exact ⟨_, rfl, congrArg Value.bool U.out, Z⟩
 ·have O : ((l.length : Int) != (m.length : Int)) = true := by rw [bne_iff_ne]; omega
  have U : Hid (false = N) := by unfold Hid; rw [G.out]; exact (decide_eq_false (fun e => hl (by rw [e]))).symm
  clear G q p;go_enter Tryz.func19, Tryz.ntmps19;go_wp2_with fail;go_ret;exact ⟨_, rfl, congrArg Value.bool U.out, Below.refl _ _⟩
theorem s2a (w : World) (vb vu vs h9 hc ha : Value) (b U b' V : List ByteArray) (S Y : List (List ByteArray)) (h : DepR w vb vu vs b U S) (h' : DepR w h9 hc ha b' V Y) (hg : Good w) :
 Calls Tryz.prog 17 #[.agg #[vb, vu, vs], .agg #[h9, hc, ha]] w (Ret (fun r _ => r = .bool (decide (b = b' /\ U = V /\ S = Y))) w) := by
 have HD := hid h;have t := hid h';obtain ⟨pb, cb, pu, cu, ps, cs, rfl, rfl, rfl⟩ := h.open;obtain ⟨m, p, k, o, l, z, rfl, rfl, rfl⟩ := h'.open;have H1 : Hid (∀ w', Below w.heap.size w w' -> _) := fun w' hb => sFa _ _ _ _ w' (HD.out.below hb).base (t.out.below hb).base;obtain ⟨L, B⟩ : ∃ r, r = decide (b = b' /\ U = V /\ S = Y) := ⟨_, rfl⟩;rw [<- B];have A := hid B;obtain ⟨_, _, -, hC, ho⟩ := h.surf.shape;obtain ⟨_, _, -, hv, h7⟩ := h'.surf.shape;obtain ⟨_, _, -, hD, hq, -⟩ := h.unit.open;obtain ⟨_, _, -, hw, h8, -⟩ := h'.unit.open;unfold maxLen at ho h7 hq h8;clear h h' B;by_cases hb : b = b'
 ·rw [decide_eq_true hb] at H1
  have HB := hid hb;clear hb;go_enter Tryz.func17, Tryz.ntmps17;go_wp2_with fail;obtain ⟨W, hW⟩ := zex ((w.alloc (.cells #[.slice pb b.length cb, .slice pu U.length cu, .slice ps S.length cs] 45)).alloc (.cells #[.slice m b'.length p, .slice k V.length o, .slice l Y.length z] 45));have d : Below w.heap.size w W := by rw [hW]; exact zal2 _ _ _
  have c2 : BoxN W (w.heap.size + 1) 45 [.slice m b'.length p, .slice k V.length o, .slice l Y.length z] := by rw [hW]; exact BoxN.new _ _ _ _ (by simp)
  have c1 : BoxN W w.heap.size 45 [.slice pb b.length cb, .slice pu U.length cu, .slice ps S.length cs] := by
   rw [hW];have O := (BoxN.new w #[.slice pb b.length cb, .slice pu U.length cu, .slice ps S.length cs] 45 _ rfl);exact O.below (zal _ _) O.lt
  have a0 := c1.cell 0 rfl;have b0 := c2.cell 0 rfl;rw [<- hW];clear hW;refine zR (H1.out W d) fun w1 X => ?_;have H := zbt d X;replace c1 := c1.bl X;replace c2 := c2.bl X;clear a0 b0 X d;have a1 := c1.cell 1 rfl;have b1 := c2.cell 1 rfl;have s := c1.cell 2 rfl;have q := c2.cell 2 rfl;by_cases hul : U.length = V.length
  ·have hr : ((U.length : Int) != (V.length : Int)) = false := by rw [bne_eq_false_iff_eq]; omega
   have a := hid hul;clear hul;by_cases hsl : S.length = Y.length
   ·have hp : ((S.length : Int) != (Y.length : Int)) = false := by rw [bne_eq_false_iff_eq]; omega
    have c := hid hsl;clear hsl;go_wp2_with fail;go_loopw [5] (fun t5 wr => ∃ i : Nat, t5 = .int .i64 i /\ i <= U.length /\ Hid (∀ j (_ : j < i) (O : j < U.length) (h2 : j < V.length), U[j] = V[j]) /\ Below w1.heap.size w1 wr) (fun t5 _ => U.length - (RowKit.intOf t5).toNat)
    case atStart => exact ⟨0, rfl, Nat.zero_le _, fun j h => absurd h (by omega), Below.refl _ _⟩
    case round =>
     obtain ⟨i, rfl, hi, g, E⟩ := hrel;have M := zbt H E;replace c1 := c1.bl E;replace c2 := c2.bl E;clear a1 b1 s q;have a1 := c1.cell 1 rfl;have b1 := c2.cell 1 rfl;have s := c1.cell 2 rfl;have q := c2.cell 2 rfl;rcases Nat.lt_or_ge i U.length with h | h
     ·have G : i < V.length := by have := a.out; omega
      obtain ⟨k1, o1, hf, e1, X, -, D⟩ := HD.out.unit.cells (by omega);obtain ⟨k2, o2, hh, e2, y, -, C⟩ := t.out.unit.cells (by omega);injection e1 with e11 e12 e13
      injection e2 with e21 e22 e23
      clear e12 e22;subst e11 e13 e21 e23;have x1 := zcq M X (D i h);have x2 := zcq M y (C i G);have f := hid (bse U[i] V[i]);have I : Hid (U[i] = V[i] -> ∀ j (_ : j < i + 1) (O : j < U.length) (h2 : j < V.length), U[j] = V[j]) := fun he j hj O h2 => by
       rcases Nat.lt_or_ge j i with h3 | h3
       ·exact g.out j h3 O h2
       ·obtain rfl : j = i := by omega
        exact he
      have J : Hid (U[i] ≠ V[i] -> L = false) := fun he => by rw [A.out]; exact decide_eq_false (fun ⟨_, e, _⟩ => lnt h G he e)
      generalize U[i] = q1 at *;generalize V[i] = q2 at *;have hn : (i : Int) < (U.length : Int) := by omega
      have h4 : (i : Int) < (V.length : Int) := by omega
      clear D C;go_upto_region 6 with fail;rcases f.out with ⟨e, e1⟩ | ⟨e, e1, e2⟩
      ·have HE := hid (I.out e)
       clear e;go_quiet (fail);obtain ⟨w2, N⟩ := zex (wr.drewN nq);have n : Below w1.heap.size w1 w2 := by rw [N]; exact E.trans ((bdN wr nq).mono E.size)
       rw [<- N];clear N x1 x2;go_wp2_with fail;go_roundw
       case rel => exact ⟨i + 1, by go_num, by omega, HE, n⟩
       case measure => simp [RowKit.intOf]; omega
      ·have HE := hid (J.out e)
       clear e;go_quiet (fail);obtain ⟨w2, N⟩ := zex (wr.drewN nq);have n : Below w.heap.size w w2 := by rw [N]; exact M.trans ((bdN wr nq).mono M.size)
       rw [<- N];clear N x1 x2;go_wp2_with fail;go_ret;exact ⟨_, rfl, congrArg Value.bool HE.out.symm, n⟩
     ·obtain rfl : i = U.length := by omega
      have HU : Hid (U = V) := lse a.out (fun j O h2 => g.out j O O h2);obtain ⟨wa, hs⟩ : ∃ x, x = wr := ⟨_, rfl⟩;subst hs;clear g;go_wp2_with fail;go_loopw [6] (fun t6 wr => ∃ i : Nat, t6 = .int .i64 i /\ i <= S.length /\ Hid (∀ j (_ : j < i) (O : j < S.length) (h2 : j < Y.length), S[j] = Y[j]) /\ Below wa.heap.size wa wr) (fun t6 _ => S.length - (RowKit.intOf t6).toNat)
      case atStart => exact ⟨0, rfl, Nat.zero_le _, fun j h => absurd h (by omega), Below.refl _ _⟩
      case round =>
       obtain ⟨i, rfl, hi, g, R⟩ := hrel;have Z := M.trans (R.mono M.size);replace c1 := c1.bl R;replace c2 := c2.bl R;clear a1 b1 s q;have s := c1.cell 2 rfl;have q := c2.cell 2 rfl;rcases Nat.lt_or_ge i S.length with h | h
       ·have G : i < Y.length := by have := c.out; omega
        obtain ⟨k1, o1, hf, e1, X, D⟩ := HD.out.surf.cells (by omega);obtain ⟨k2, o2, hh, e2, y, C⟩ := t.out.surf.cells (by omega);injection e1 with e11 e12 e13
        injection e2 with e21 e22 e23
        clear e12 e22;subst e11 e13 e21 e23;obtain ⟨pa, ca, ka, h5⟩ := D i h;obtain ⟨pd, cd, kb, h6⟩ := C i G;have x1 := zcq Z X ka;have x2 := zcq Z y kb;have hd : Hid (∀ w', Below w.heap.size w w' -> _) := fun w' hb => sFa _ _ _ _ w' (RdC.below h5 hb) (RdC.below h6 hb)
        have I : Hid (S[i] = Y[i] -> ∀ j (_ : j < i + 1) (O : j < S.length) (h2 : j < Y.length), S[j] = Y[j]) := fun he j hj O h2 => by
               rcases Nat.lt_or_ge j i with h3 | h3
               ·exact g.out j h3 O h2
               ·obtain rfl : j = i := by omega
                exact he
        have J : Hid (S[i] ≠ Y[i] -> L = false) := fun he => by rw [A.out]; exact decide_eq_false (fun ⟨_, _, e⟩ => lnt h G he e)
        have f : Hid ((decide (S[i] = Y[i]) = true -> S[i] = Y[i]) /\ (decide (S[i] = Y[i]) = false -> S[i] ≠ Y[i])) := ⟨of_decide_eq_true, of_decide_eq_false⟩;generalize S[i] = q1 at *;generalize Y[i] = q2 at *;generalize decide (q1 = q2) = bq at *;generalize q1.length = n1 at *;generalize q2.length = n2 at *;have hn : (i : Int) < (S.length : Int) := by omega
        have h4 : (i : Int) < (Y.length : Int) := by omega
        clear D C h5 h6 ka kb;have hx := Nat.lt_of_lt_of_le X Z.size;have hy := Nat.lt_of_lt_of_le y Z.size;have hz := c1.lt;have hA := c2.lt;have hm : Good wr.drew := (hg.below Z).drewN 1;have hl : Below w.heap.size w wr.drew := Z.trans ((bdN wr 1).mono Z.size);go_upto_region 11 with fail
        go_region_held3 (fun w' => w'.cell? ⟨w.heap.size, 2, none⟩ = some (.slice (some ⟨k1, o1, none⟩) S.length cs) /\ w'.cell? ⟨w.heap.size + 1, 2, none⟩ = some (.slice (some ⟨k2, o2, none⟩) Y.length z) /\ w'.cell? ⟨k1, o1 + i, none⟩ = some (.slice pa n1 ca) /\ w'.cell? ⟨k2, o2 + i, none⟩ = some (.slice pd n2 cd))
               (first | exact ⟨s, q, x1, x2⟩ | exact ⟨p_1_0, p_1_1, p_1_2, p_1_3⟩)
               (first
               | (go_at_call 19; refine (hd.out _ hl).mono ?_; rintro e v ⟨_, rfl, rfl, Q⟩
                  have p_1_0 := zct Q s;have p_1_1 := zct Q q;have p_1_2 := zct Q x1;have p_1_3 := zct Q x2;have hu : wr.heap.size <= v.heap.size := Q.size;have ht := hm.below Q))
        have pB : Below wr.heap.size wr v := zbt (bdN wr 1) Q;have h0 : Below wa.heap.size wa v := R.trans (pB.mono R.size);have hk : Below w.heap.size w v := Z.trans (pB.mono Z.size);clear pB Q hu ht s q x1 x2;cases bq
        ·have K := hid (J.out (f.out.2 rfl))
         clear J f I;go_wp2_with fail;go_ret;exact ⟨_, rfl, congrArg Value.bool K.out.symm, hk⟩
        ·have K := hid (I.out (f.out.1 rfl))
         clear J f I;go_wp2_with fail;go_roundw
         case rel => exact ⟨i + 1, by go_num, by omega, K, h0⟩
         case measure => simp [RowKit.intOf]; omega
       ·obtain rfl : i = S.length := by omega
        have K : Hid (L = true) := by
               unfold Hid;rw [A.out];exact decide_eq_true ⟨HB.out, HU.out, lse c.out (fun j O h2 => g.out j O O h2)⟩
        go_wp2_with fail;go_ret;exact ⟨_, rfl, congrArg Value.bool K.out.symm, Z⟩
   ·have hp : ((S.length : Int) != (Y.length : Int)) = true := by rw [bne_iff_ne]; omega
    have K : Hid (L = false) := by unfold Hid; rw [A.out]; exact decide_eq_false (fun ⟨_, _, e⟩ => hsl (by rw [e]))
    clear A;go_wp2_with fail;go_ret;exact ⟨_, rfl, congrArg Value.bool K.out.symm, H⟩
  ·have hr : ((U.length : Int) != (V.length : Int)) = true := by rw [bne_iff_ne]; omega
   have K : Hid (L = false) := by unfold Hid; rw [A.out]; exact decide_eq_false (fun ⟨_, e, _⟩ => hul (by rw [e]))
   clear A;go_wp2_with fail;go_ret;exact ⟨_, rfl, congrArg Value.bool K.out.symm, H⟩
 ·have K : Hid (L = false) := by unfold Hid; rw [A.out]; exact decide_eq_false (fun ⟨e, _⟩ => hb e)
  rw [decide_eq_false hb] at H1;clear A;generalize b.length = lb at *;generalize b'.length = lb' at *;go_enter Tryz.func17, Tryz.ntmps17;go_wp2_with fail;have d : Below w.heap.size w ((w.alloc (.cells #[.slice pb lb cb, .slice pu U.length cu, .slice ps S.length cs] 45)).alloc (.cells #[.slice m lb' p, .slice k V.length o, .slice l Y.length z] 45)) := ((Below.refl _ _).alloc (Nat.le_refl _) _).alloc (by simp) _;refine zR (H1.out _ d) fun w1 X => ?_;have H := zbt d X;go_wp2_with fail;go_ret;exact ⟨_, rfl, congrArg Value.bool K.out.symm, H⟩
theorem re0 (q : Rat) (S : (RS q).size <= 100000) (w : World) :
 Calls Tryz.prog 78 #[.string (RS q)] w (Ret (fun v _ => v = .string (RS q.abs)) w) := by
 have Y := Rps q;have Z := Rhd q Y;obtain ⟨s, U⟩ := zex (RS q);have R := hid U;simp only [<- U] at Y Z S ⊢;obtain ⟨c0, V⟩ : ∃ c0 : Nat, s[0].toNat = c0 := ⟨_, rfl⟩;rw [V] at Z;clear U;rcases Int.lt_or_le q.num 0 with h | h
 ·have Q : ((c0 : Int) == 45) = true := by rw [beq_iff_eq]; have := Z.2 h; omega
  have X : Hid (s.extract 1 s.size = RS q.abs) := by
   unfold Hid;have e : q.abs = -q := by unfold Rat.abs; rw [if_neg (Rat.not_le.2 (num_lt_zero_iff.1 h))]
   rw [e];apply bet;rw [bdp, Blt, R.out, Rlt, Rlt, Rng q h]
  clear Z h;go_enter Tryz.func78, Tryz.ntmps78;go_wp2_with fail;go_ret;exact ⟨_, rfl, congrArg Value.string X.out, Below.refl _ _⟩
 ·have Q : ((c0 : Int) == 45) = false := by rw [beq_eq_false_iff_ne]; intro e; have := Z.1 (by omega); omega
  have X : Hid (s = RS q.abs) := by
   unfold Hid;have e : q.abs = q := by unfold Rat.abs; rw [if_pos (Rat.num_nonneg.1 h)]
   rw [e, R.out]
  clear Z h;go_enter Tryz.func78, Tryz.ntmps78;go_wp2_with fail;go_ret;exact ⟨_, rfl, congrArg Value.string X.out, Below.refl _ _⟩
theorem n2a (w : World) (Z X Y : Value) (b U : List ByteArray) (S : List (List ByteArray)) (h : DepR w Z X Y b U S) (O : b.length + U.length + S.length <= 1000000) :
 Calls Tryz.prog 15 #[.agg #[Z, X, Y]] w (Ret (fun r _ => r = .bool (decide (b.length + U.length + S.length = 0))) w) := by
 obtain ⟨N, R, L, Q, M, cs, rfl, rfl, rfl⟩ := h.open;have V : Hid (((b.length : Int) + (U.length : Int) + (S.length : Int) == 0) = decide (b.length + U.length + S.length = 0)) := by
  unfold Hid;by_cases h0 : b.length + U.length + S.length = 0
  ·rw [decide_eq_true h0, beq_iff_eq]; omega
  ·rw [decide_eq_false h0, beq_eq_false_iff_ne]; omega
 generalize decide (b.length + U.length + S.length = 0) = res at *;generalize b.length = lb at *;generalize U.length = lu at *;generalize S.length = ls at *;clear h;go_enter Tryz.func15, Tryz.ntmps15;go_wp2_with fail;go_ret;exact ⟨_, rfl, congrArg Value.bool V.out, (Below.refl _ _).alloc (Nat.le_refl _) _⟩
theorem pb0 (w : World) (v : Value) (F : List Rat) (h : RdQ w v F) (hl : F.length <= 400) (t : ∀ q ∈ F, (RS q).size <= 100000) :
 Calls Tryz.prog 38 #[v] w (Ret (fun r w' => FldV w' w.heap.size r (F.map Rat.abs)) w) := by
 obtain ⟨i0, Q, B, A, z⟩ := info_parts isr;have I : Hid (∀ i (Q : i < F.length), ∃ b o c, v = .slice (some ⟨b, o, none⟩) F.length c /\ b < w.heap.size /\ w.cell? ⟨b, o + i, none⟩ = some (.string (RS F[i]))) := fun i Q => by
  obtain ⟨p, c, rfl, -, -, hr⟩ := h.open;obtain ⟨b, o, rfl, G, a⟩ := hr (List.ne_nil_of_length_pos (by omega));exact ⟨b, o, c, rfl, G, a i Q⟩
 have J : Hid (∀ i (Q : i < F.length) w, _) := fun i Q w => re0 F[i] (t _ (List.getElem_mem Q)) w;obtain ⟨pf, k, rfl, E, D, -⟩ := h.open;unfold maxLen at D;obtain ⟨n, K⟩ := zex (F.length);have M := hid K;replace I : Hid (∀ i (Q : i < F.length), ∃ b o c, Value.slice pf n k = .slice (some ⟨b, o, none⟩) n c /\ b < w.heap.size /\ w.cell? ⟨b, o + i, none⟩ = some (.string (RS F[i]))) := by rw [K]; exact I
 rw [<- K] at hl E ⊢;clear h t K;go_enter Tryz.func38, Tryz.ntmps38;go_wp2_with fail;obtain ⟨W, L⟩ := zex (w.alloc (.cells #[] 55));have d : Below w.heap.size w W := by rw [L]; exact zal _ _
 have f : W.ownsRow w.heap.size 55 1 (.slice (some ⟨w.heap.size, 0, none⟩) 0 0) 0 ([] : List Value) := by
  rw [L];have := World.ownsRow_lit (base := w.heap.size) (e := 55) (size := 1) w #[] 0 (by simp) (by decide) rfl;simpa using this
 rw [<- L];clear L;go_loopw [3, 4] (fun t3 t4 wr => ∃ (i : Nat), t4 = .int .i64 i /\ i <= n /\ wr.ownsRow w.heap.size 55 1 t3 i (cFd ((F.take i).map Rat.abs)) /\ Below w.heap.size w wr) (fun _ t4 _ => n - (RowKit.intOf t4).toNat)
 case atStart => exact ⟨0, rfl, Nat.zero_le _, f, d⟩
 case round =>
  obtain ⟨i, rfl, h2, Y, S⟩ := hrel;obtain ⟨p3, l, rfl⟩ := oRs Y;rcases Nat.lt_or_ge i n with h | h
  ·obtain ⟨b, o, c, g, G, X⟩ := I.out i (by have := M.out; omega)
   injection g with e11 e12 e13
   clear e12;subst e11 e13;have O : i < F.length := by have := M.out; omega
   have xi := zcq S G X;have H : Hid ((F.take (i + 1)).map Rat.abs = (F.take i).map Rat.abs ++ [F[i].abs]) := by
    unfold Hid;rw [List.take_succ_eq_append_getElem O, List.map_append];rfl
   have m := hid (J.out i O);generalize F[i].abs = qa at *;generalize F[i] = q at *;have x : (i : Int) < (n : Int) := by omega
   clear X O;go_wp2_with fail;refine zR (m.out wr) fun w2 hb2 => ?_;have V := WRA Y hb2;have R : Below w.heap.size w w2 := zbt S hb2;have s := R.size;clear hb2 Y S xi
   go_wp2_with (at_builtin; refine wpList_append_own _ rfl _ _ 33 rfl w.heap.size 55 i0 (.string ⟨#[]⟩) 1 16 Tryz.underlying33 Q B A z rfl (by decide) _ _ _ rfl (V.alloc _) ⟨w2.heap.size, 0, none⟩ 1 1 [.string (RS qa)] rfl rfl (cos _ _ _) (ocs _) (by unfold maxLen; omega) (by omega) (by simp; omega) ?_
                intro v2 w3 U Z _;have N : Below w.heap.size w w3 := (R.alloc (by omega) _).grown Z (by simp; omega) (fun j hj => by have := (V.lt j hj).1; omega);clear Z)
   go_roundw
   case rel => exact ⟨i + 1, by simp, by omega, by rw [H.out]; unfold cFd at U ⊢; rw [List.map_append]; exact U, N⟩
   case measure =>
    show n - ((i : Int) + 1).toNat < n - (i : Int).toNat;omega
  ·obtain rfl : i = n := by omega
   have C : FldV wr w.heap.size (.slice p3 i l) (F.map Rat.abs) := by
    unfold FldV;have e : (F.map Rat.abs).length = i := by rw [List.length_map, <- M.out]
    rw [e];have y := Y;rw [List.take_of_length_le (by have := M.out; omega)] at y;exact y
   go_wp2_with fail;go_ret;exact ⟨_, rfl, C, S⟩
end Go.Proofs.YtmcbeajdloaliaaGreatDoor
