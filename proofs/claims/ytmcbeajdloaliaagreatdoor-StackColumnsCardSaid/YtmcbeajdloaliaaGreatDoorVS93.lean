import Derived.Test.YtmcbeajdloaliaaGreatDoorVS84
/- klippelaw28.check of any texts. klippelaw28.StackColumns. -/
set_option maxHeartbeats 8000000
set_option maxRecDepth 100000
namespace Go.Proofs.YtmcbeajdloaliaaGreatDoor
open Go.RowKit Go.Lib
theorem hSi (l : List ByteArray) (u : ByteArray) : hasS l u = true ↔ u ∈ l := by
 constructor
 ·intro Z
  refine Classical.byContradiction fun h2 => ?_
  rw [hSf h2] at Z;cases Z
 ·exact hJ0
theorem hC0 {U : List ByteArray} {nm : ByteArray} {i : Nat} (h : i < U.length) : hasS (U.take (i + 1)) nm = (hasS (U.take i) nm || decide (U[i] = nm)) := by
 rw [Bool.eq_iff_iff, Bool.or_eq_true, hSi, hSi, decide_eq_true_iff, List.take_succ_eq_append_getElem h, List.mem_append, List.mem_singleton];exact or_congr Iff.rfl ⟨fun e => e.symm, fun e => e.symm⟩
theorem hSt {U : List ByteArray} {nm : ByteArray} {k i : Nat} (h : k <= i) (Z : hasS (U.take k) nm = true) : hasS (U.take i) nm = true := by
 rw [hSi] at Z ⊢;exact (List.take_prefix_take_left h).subset Z
theorem l2a (w : World) (vp vt vb vu vs : Value) (P : List PtQ) (T : List Tri) (KK : Nat) (b U : List ByteArray) (S : List (List ByteArray)) (h : DepT w vp vt vb vu vs P T KK b U S) (z0 : ∀ u ∈ U, u.size < 1000000000) (hg : Good w) :
 Calls Tryz.prog 28 #[.agg #[vp, vt], .agg #[vb, vu, vs]] w (Ret (fun r _ => r = .int .i64 (depE P T b U S)) w) := by
 have E := hid h;obtain ⟨pp, cp, rfl, -, -, -⟩ := h.p.open;obtain ⟨pt, ct, rfl, -, -, -⟩ := h.t.open;obtain ⟨pb, cb, rfl, -, -, -⟩ := h.base.open;obtain ⟨pu, cu, rfl, y2, zF, -⟩ := h.unit.open;obtain ⟨ps, cs, rfl, zZ, zE⟩ := h.surf.shape;unfold maxLen at zF zE;rw [sPl] at *;obtain ⟨O, o⟩ : ∃ r, r = depE P T b U S := ⟨_, rfl⟩;rw [<- o];have HR := hid o;clear o h;by_cases hT : T = []
 ·have M : Hid (O = 13) := by unfold Hid; rw [HR.out]; exact dEm hT
  have HC : Hid (∀ w', Below w.heap.size w w' -> Calls Tryz.prog 61 #[.agg #[.slice pp P.length cp, .slice pt T.length ct]] w' (Ret (fun r _ => r = .int .i64 13) w')) := fun w' hb => by
   have Y := (E.out.below hb).t;rw [hT] at Y;exact cey w' _ _ P (E.out.below hb).p (by rw [hT]; exact Y)
  clear HR E hT;go_enter Tryz.func28, Tryz.ntmps28;go_wp2_with fail;refine zR (HC.out _ (((Below.refl _ _).alloc (Nat.le_refl _) _).alloc (by simp) _)) fun w1 hb1 => ?_;have A : Below w.heap.size w w1 := (((Below.refl _ _).alloc (Nat.le_refl _) _).alloc (by simp) _).trans (hb1.mono (by simp; omega));go_wp2_with fail;go_ret;exact ⟨_, rfl, congrArg (Value.int .i64) M.out.symm, A⟩
 ·have HM := hid (E.out.m hT)
  have HC : Hid (∀ w', Below w.heap.size w w' -> Good w' -> Calls Tryz.prog 61 #[.agg #[.slice pp P.length cp, .slice pt T.length ct]] w' (Ret (fun r _ => r = .int .i64 0) w')) := fun w' hb hg' =>
   ca0 w' _ _ P T KK (E.out.below hb).p (E.out.below hb).t HM.out hg'
  have hP : Hid (∀ F ∈ b :: S, ∀ p c, ∀ w', Below w.heap.size w w' -> Good w' -> RdS w' (.slice p F.length c) F -> Calls Tryz.prog 13 #[.agg #[.slice pp P.length cp, .slice pt T.length ct], .slice p F.length c] w' (Ret (fun r _ => r = .int .i64 (errF P.length F)) w')) := fun F hF p c w' hb hg' hr =>
   fay w' _ _ _ P T KK F (E.out.below hb).p (E.out.below hb).t HM.out hr (E.out.ok F hF).1 (E.out.ok F hF).2 hg'
  have ze : Hid (∀ w', Below w.heap.size w w' -> Good w' -> Calls Tryz.prog 13 #[.agg #[.slice pp P.length cp, .slice pt T.length ct], .slice pb b.length cb] w' (Ret (fun r _ => r = .int .i64 (errF P.length b)) w')) := fun w' hb hg' => hP.out b (by simp) pb cb w' hb hg' (E.out.below hb).base
  go_enter Tryz.func28, Tryz.ntmps28;go_wp2_with fail;obtain ⟨W, hW⟩ := zex ((w.alloc (.cells #[.slice pp P.length cp, .slice pt T.length ct] 41)).alloc (.cells #[.slice pb b.length cb, .slice pu U.length cu, .slice ps S.length cs] 45));have hB : Below w.heap.size w W := by rw [hW]; exact zal2 _ _ _
  have b2 : BoxN W (w.heap.size + 1) 45 [.slice pb b.length cb, .slice pu U.length cu, .slice ps S.length cs] := by rw [hW]; exact BoxN.new _ _ _ _ (by simp)
  have b1 : BoxN W w.heap.size 41 [.slice pp P.length cp, .slice pt T.length ct] := by
   rw [hW];have Y := (BoxN.new w #[.slice pp P.length cp, .slice pt T.length ct] 41 _ rfl);exact Y.below (zal _ _) Y.lt
  rw [<- hW];clear hW;refine zR (HC.out W hB (hg.below hB)) fun w1 hb1 => ?_;have A := zbt hB hb1;replace b1 := b1.bl hb1;replace b2 := b2.bl hb1;obtain ⟨m0, m1⟩ := zk2 b1;obtain ⟨d0, d1, v⟩ := zk3 b2;clear hb1 hB;go_wp2_with fail;refine zR (ze.out w1 A (hg.below A)) fun w2 hb2 => ?_;have h4 := zbt A hb2;replace b1 := b1.bl hb2;replace b2 := b2.bl hb2;clear m0 m1 d0 d1 v hb2 A;obtain ⟨m0, m1⟩ := zk2 b1;obtain ⟨d0, d1, v⟩ := zk3 b2;by_cases hE : errF P.length b = 0
  ·have B : Hid (O = _) := HR.out.trans (dEr hT hE)
   have zs := hid hE;rw [hE];clear HR hE;by_cases hU0 : U.length = 0
   ·have M : Hid (O = 13) := by unfold Hid; rw [B.out, if_pos hU0]
    have hz : ((U.length : Int) == 0) = true := by rw [beq_iff_eq]; omega
    clear B;go_wp2_with fail;go_ret;exact ⟨_, rfl, congrArg (Value.int .i64) M.out.symm, h4⟩
   have hz : ((U.length : Int) == 0) = false := by rw [beq_eq_false_iff_ne]; omega
   by_cases hU6 : 60 < U.length
   ·have M : Hid (O = 4) := by unfold Hid; rw [B.out, if_neg hU0, if_pos hU6]
    have zH : decide ((60 : Int) < (U.length : Int)) = true := decide_eq_true (by omega);clear B;go_wp2_with fail;go_ret;exact ⟨_, rfl, congrArg (Value.int .i64) M.out.symm, h4⟩
   have zH : decide ((60 : Int) < (U.length : Int)) = false := decide_eq_false (by omega);have l : Hid (O = if fEE (uBd U) U.length ≠ 0 then fEE (uBd U) U.length else if S.length + 1 ≠ U.length then 5 else fEE (sBd P.length b S) S.length) := by unfold Hid; rw [B.out, if_neg hU0, if_neg hU6]
   clear B;go_wp2_with fail;have zq := hid z0;clear z0;go_loopw [7] (fun t7 wr => ∃ i : Nat, t7 = .int .i64 i /\ i <= U.length /\ Hid (∀ j, j < i -> uBd U j = 0) /\ Below w2.heap.size w2 wr) (fun t7 _ => U.length - (RowKit.intOf t7).toNat)
   case atStart => exact ⟨0, rfl, Nat.zero_le _, fun j h => absurd h (by omega), Below.refl _ _⟩
   case round =>
    obtain ⟨i, rfl, hi, t, I⟩ := hrel;have h8 := zbt h4 I;have c1 := b1.bl I;have c2 := b2.bl I;have e1 := c2.cell 1 rfl;have e2 := c2.cell 2 rfl;clear m0 m1 d0 d1 v;rcases Nat.lt_or_ge i U.length with Z | Z
    ·obtain ⟨bu, ou, zT, hJ, hA, zU, X⟩ := E.out.unit.cells (by omega)
     injection hJ with hv1 hv2 hv3
     clear hv2;subst hv1 hv3;have x0 := zcq h8 hA (X i Z);have hM : Hid (∀ j (hj : j < U.length), w.cell? ⟨bu, ou + j, none⟩ = some (.string U[j])) := X;have HI : Hid (∀ w', Calls Tryz.prog 12 #[.string U[i]] w' (Ret (fun r _ => r = .bool (nameQ U[i])) w')) := fun w' => lIN _ (zq.out _ (List.getElem_mem Z)) _;have H8 : Hid (nameQ U[i] = false -> O = 8) := fun h => by
      have Y := uBn Z h;have J : fEE (uBd U) U.length = 8 := by rw [fEa Z (by rw [Y]; decide) t.out, Y]
      rw [l.out, if_pos (by rw [J]; decide), J]
     have H9 : Hid (nameQ U[i] = true -> hasS (U.take i) U[i] = true -> O = 9) := fun h h' => by
      have Y := uBt Z h h';have J : fEE (uBd U) U.length = 9 := by rw [fEa Z (by rw [Y]; decide) t.out, Y]
      rw [l.out, if_pos (by rw [J]; decide), J]
     have H0 : Hid (nameQ U[i] = true -> hasS (U.take i) U[i] = false -> ∀ j, j < i + 1 -> uBd U j = 0) := fun h h' j hj => by
      rcases (by omega : j < i \/ j = i) with Y | rfl
      ·exact t.out j Y
      ·exact uBo Z h h'
     have hv : Hid (∀ k (hk : k < i), hasS (U.take (k + 1)) U[i] = (hasS (U.take k) U[i] || decide (U[k]'(by omega) = U[i]))) := fun k hk => by
      rw [hC0 (by omega : k < U.length)]
     have hq : Hid (∀ k, k <= i -> hasS (U.take k) U[i] = true -> hasS (U.take i) U[i] = true) := fun k hk h => hSt hk h;have zy : (i : Int) < (U.length : Int) := by omega
     have zW : (i : Int) <= (cu : Int) := by omega
     generalize nameQ U[i] = nb at *;clear X;go_wp2_with fail;refine zR (HI.out wr) fun w3 hb3 => ?_;have hx := zbt h8 hb3;have z5 := zbt I hb3;have c3 := c2.bl hb3;have l3 := c3.lt;clear HI x0;cases nb
     ·have M := hid (H8.out rfl)
      clear H8 H9 H0 hv hq;go_wp2_with fail;go_ret;exact ⟨_, rfl, congrArg (Value.int .i64) M.out.symm, hx⟩
     ·have hL := hid (H9.out rfl)
      have hK := hid (H0.out rfl);clear H8 H9 H0 e1 e2 c2;go_wp2_with fail;go_loopw [8] (fun t8 wq => ∃ k : Nat, t8 = .int .i64 k /\ k <= i /\ Hid (hasS (U.take k) U[i] = false) /\ Below w3.heap.size w3 wq) (fun t8 _ => i - (RowKit.intOf t8).toNat)
      case atStart => exact ⟨0, rfl, Nat.zero_le _, rfl, Below.refl _ _⟩
      case round =>
       obtain ⟨k, rfl, hk, HN, K⟩ := hrel;have L := zbt hx K;have ck := c3.below K l3;have f1 := ck.cell 1 rfl;rcases Nat.lt_or_ge k i with hG | hG
       ·have zB : (k : Int) < (i : Int) := by omega
        have he : k < U.length := by omega
        have zY : (k : Int) < (U.length : Int) := by omega
        have y0 := zcq L hA (hM.out i Z);have y1 := zcq L hA (hM.out k he);have hu := hid (hv.out k hG);have zh := hid (hq.out (k + 1) hG);have hf := bse (U[k]'he) U[i];obtain ⟨bA, hy⟩ : ∃ b, b = decide (U[k]'he = U[i]) := ⟨_, rfl⟩;have hm := hid hy;rw [<- hy] at hu;clear hy;have hw := hid hf;clear hf;obtain ⟨ui, zc⟩ : ∃ x, x = U[i] := ⟨_, rfl⟩;obtain ⟨uk, zd⟩ : ∃ x, x = U[k]'he := ⟨_, rfl⟩;rw [<- zc] at y0 hm hw;rw [<- zd] at y1 hm hw;clear zc zd;have zw : Below w3.heap.size w3 wr.drew := K.trans ((bdN wr 1).mono K.size);go_upto_region 19 with fail;go_cut [62] (fun s wx => s = .bool bA /\ Below w3.heap.size w3 wx)
        case first =>
             have hf := hw.out;go_region;all_goals
              go_wp2_with fail;go_meet;refine ⟨?_, zw⟩;rw [hm.out];rcases hf with ⟨rfl, _⟩ | ⟨h5, h6, h7⟩
              ·simp
              ·simp [h5, h7]
        case rest =>
        obtain ⟨rfl, z8⟩ := hcut;cases bA
        ·have zi : Hid (hasS (U.take (k + 1)) U[i] = false) := by unfold Hid; rw [hu.out, HN.out]; rfl
         go_wp2_with fail;go_roundw
         case rel => exact ⟨k + 1, by go_num, by omega, zi, z8⟩
         case measure =>
          show i - ((k : Int) + 1).toNat < i - (k : Int).toNat;omega
        ·have M := hid (hL.out (zh.out (by rw [hu.out, Bool.or_true])))
         go_wp2_with fail;go_ret;exact ⟨_, rfl, congrArg (Value.int .i64) M.out.symm, (zbt hx z8)⟩
       ·obtain rfl : k = i := by omega
        have M := hid (hK.out HN.out);have z4 := zbt z5 K;clear hK hL hv hq;go_wp2_with fail;go_roundw
        case rel => exact ⟨k + 1, by go_num, Z, M, z4⟩
        case measure =>
             show U.length - ((k : Int) + 1).toNat < U.length - (k : Int).toNat;omega
    ·obtain rfl : i = U.length := by omega
     have h0 : fEE (uBd U) U.length = 0 := fEn t.out;have g : Hid (O = if S.length + 1 ≠ U.length then 5 else fEE (sBd P.length b S) S.length) := by unfold Hid; rw [l.out, if_neg (by rw [h0]; simp)]
     clear l h0 t;obtain ⟨wa, zG⟩ : ∃ x, x = wr := ⟨_, rfl⟩;subst zG;by_cases hSU : S.length + 1 = U.length
     ·have ht : Hid (O = fEE (sBd P.length b S) S.length) := by unfold Hid; rw [g.out, if_neg (by omega)]
      have zC : ((S.length : Int) != (U.length : Int) - 1) = false := by rw [bne_eq_false_iff_eq]; omega
      clear g;have e0 := c2.cell 0 rfl;go_wp2_with fail;have zb : RdS w (.slice pb b.length cb) (fldT b S 0) := E.out.base;have hU : Hid (RdS w (.slice pb (fldT b S 0).length cb) (fldT b S 0)) := zb;have zN : (fldT b S 0).length = b.length := rfl;have c0 := c1;have zO := c2;have l1 := c1.lt;have l2 := c2.lt;go_loopw [9, 10] (fun t9 t10 wr => ∃ (i : Nat) (pf : Option Addr) (cf : Nat), t10 = .int .i64 i /\ i <= S.length /\ t9 = .slice pf (fldT b S i).length cf /\ Hid (RdS w (.slice pf (fldT b S i).length cf) (fldT b S i)) /\ Hid (∀ j, j < i -> sBd P.length b S j = 0) /\ Below wa.heap.size wa wr) (fun _ t10 _ => S.length - (RowKit.intOf t10).toNat)
      case atStart => exact ⟨0, _, _, rfl, Nat.zero_le _, rfl, hU, fun j h => absurd h (by omega), Below.refl _ _⟩
      case round =>
       obtain ⟨i, pf, cf, rfl, hi, rfl, zo, t, I⟩ := hrel;have N := zbt h8 I;replace c1 := c1.below I l1;replace c2 := c2.below I l2;clear e1 e2;obtain ⟨m0, m1⟩ := zk2 c1;have v := c2.cell 2 rfl;have zz := c1.lt;have zA := c2.lt;rcases Nat.lt_or_ge i S.length with Z | Z
       ·obtain ⟨d, os, zS, hJ, h9, X⟩ := E.out.surf.cells (by omega)
        injection hJ with hv1 hv2 hv3
        clear hv2;subst hv1 hv3;obtain ⟨pg, a, D, n⟩ := X i Z;have x0 := zcq N h9 D;have C : S[i] ∈ b :: S := List.mem_cons_of_mem _ (List.getElem_mem Z);have hS : Hid (∀ w', Below w.heap.size w w' -> Good w' -> Calls Tryz.prog 13 #[.agg #[.slice pp P.length cp, .slice pt T.length ct], .slice pg S[i].length a] w' (Ret (fun r _ => r = .int .i64 (errF P.length S[i])) w')) := fun w' hb hg' => hP.out S[i] C pg a w' hb hg' (RdC.below n hb);have zy : (i : Int) < (S.length : Int) := by omega
        have H : Good wr.drew := (hg.below N).drewN 1;have z1 : Below w.heap.size w wr.drew := N.trans ((bdN wr 1).mono N.size);have z7 : d < wr.heap.size := Nat.lt_of_lt_of_le h9 N.size;have hN : Hid (w.cell? ⟨d, os + i, none⟩ = some (.slice pg S[i].length a)) := D;clear X D;go_upto_region 27 with fail;go_region_held3 (fun w' => w'.cell? ⟨w.heap.size, 0, none⟩ = some (.slice pp P.length cp) /\ w'.cell? ⟨w.heap.size, 1, none⟩ = some (.slice pt T.length ct) /\ w'.cell? ⟨w.heap.size + 1, 2, none⟩ = some (.slice (some ⟨d, os, none⟩) S.length cs) /\ w'.cell? ⟨d, os + i, none⟩ = some (.slice pg S[i].length a))
         (first | exact ⟨m0, m1, v, x0⟩ | exact ⟨p_1_0, p_1_1, p_1_2, p_1_3⟩)
         (first
         | (go_at_call 13; refine (hS.out _ z1 H).mono ?_; rintro e hl ⟨_, rfl, rfl, G⟩
            have p_1_0 := zct G m0;have p_1_1 := zct G m1;have p_1_2 := zct G v;have p_1_3 := zct G x0;have zK : wr.heap.size <= hl.heap.size := G.size;have zJ := H.below G))
        have pB : Below wr.heap.size wr hl := zbt (bdN wr 1) G;have z6 := zbt I pB;have hV := N.trans (pB.mono N.size);replace c2 := c2.below pB zA;replace c1 := c1.below pB zz;clear m0 m1 v x0 H z1 z7 G zK zJ p_1_0 p_1_1 p_1_2 p_1_3 hS;by_cases hE : errF P.length S[i] = 0
        ·have hX : errF P.length (fldT b S i) = 0 := by
          rcases Nat.eq_zero_or_pos i with h0 | h0
          ·subst h0; exact zs.out
          ·have Y := t.out (i - 1) (by omega)
           unfold sBd at Y;rw [show i - 1 + 1 = i by omega] at Y;by_cases J : errF P.length (fldT b S i) = 0
           ·exact J
           ·rw [if_pos J] at Y; exact absurd Y J
         obtain ⟨R, hR, y, hZ⟩ := E.out.num (fldT b S i) (fe0 b S hi) hX;obtain ⟨Q, hQ, z, hY⟩ := E.out.num S[i] C hE;have hH : sBd P.length b S i = if belowB R Q then 0 else 6 := by
          unfold sBd;rw [fTn b S Z, if_neg (by rw [hE]; decide), hR, hQ, nTm, nTm]
         have H6 : Hid (∀ k (Y : k < R.length) (J : k < Q.length), Q[k] < R[k] -> O = 6) := fun k Y J h => by
          have h0 : belowB R Q = false := by
                   rw [<- Bool.not_eq_true, bBi R Q (by rw [y, z])];exact fun hh => absurd (hh k Y J) (Rat.not_le.2 h)
          have Y : sBd P.length b S i = 6 := by rw [hH, h0]; rfl
          rw [ht.out, fEa Z (by rw [Y]; decide) t.out, Y]
         have H0 : Hid ((∀ k (Y : k < R.length) (J : k < Q.length), R[k] <= Q[k]) -> ∀ j, j < i + 1 -> sBd P.length b S j = 0) := fun h j hj => by
          rcases (by omega : j < i \/ j = i) with Y | rfl
          ·exact t.out j Y
          ·rw [hH, (bBi R Q (by rw [y, z])).2 h]; rfl
         have q1 : RdQ w (.slice pf P.length cf) R := by
          have h5 := zo.out;rw [hR, List.length_map, y] at h5;exact rSt h5
         have q2 : RdQ w (.slice pg P.length a) Q := by
          have h5 := n;rw [hQ, List.length_map, z] at h5;exact rSt h5
         have hD : S[i].length = P.length := by rw [hQ, List.length_map, z]
         have z9 : (fldT b S i).length = P.length := by rw [hR, List.length_map, y]
         have zk : Hid (RdS w (.slice pg (fldT b S (i + 1)).length a) (fldT b S (i + 1))) := by unfold Hid; rw [fTn b S Z]; exact n
         have za : (fldT b S (i + 1)).length = P.length := by rw [fTn b S Z, hD]
         have zj := hid za;have zV : (errF P.length S[i] != 0) = false := by rw [bne_eq_false_iff_eq]; exact hE
         rw [hE] at *;rw [z9];rw [hD] at hN;have zl := hid q1;have zm := hid q2;have f := hid y;have hs := hid z;have zp := hid hZ;have zn := hid hY;have zf := hid HM.out.kpos;have zg := hid HM.out.klim2;clear hH hZ hY hR hQ y z n hX hE C q1 q2 hD z9 za;have zI := c2.lt;have zD := HM.out.plen;go_wp2_with fail;go_loopw [12] (fun t12 wq => ∃ k : Nat, t12 = .int .i64 k /\ k <= P.length /\ Hid (∀ j (Y : j < R.length) (J : j < Q.length), j < k -> R[j] <= Q[j]) /\ Below hl.heap.size hl wq) (fun t12 _ => P.length - (RowKit.intOf t12).toNat)
         case atStart => exact ⟨0, rfl, Nat.zero_le _, fun j _ _ h => absurd h (by omega), Below.refl _ _⟩
         case round =>
          obtain ⟨k, rfl, zX, hp, K⟩ := hrel;have L := zbt hV K;have ck := c2.below K zI;have v := ck.cell 2 rfl;have x0 := zcq L h9 hN.out;rcases Nat.lt_or_ge k P.length with q | q
          ·obtain ⟨bf, of, zP, ef, z2, hC⟩ := zl.out.cells (by rw [f.out]; omega)
           obtain ⟨bg, og, zQ, eg, z3, D⟩ := zm.out.cells (by rw [hs.out]; omega);rw [f.out] at ef hC;rw [hs.out] at eg D;injection ef with e1 e2 e3
           clear e2;subst e1 e3;injection eg with e1 e2 e3
           clear e2;subst e1 e3;have xf := zcq L z2 (hC k q);have xg := zcq L z3 (D k q);have hd : k < R.length := by rw [f.out]; exact q
           have ha : k < Q.length := by rw [hs.out]; exact q
           have s1 : Sz KK (hI R k) := by rw [hh0 R k hd]; exact zp.out _ (List.getElem_mem hd)
           have s2 : Sz KK (hI Q k) := by rw [hh0 Q k ha]; exact zn.out _ (List.getElem_mem ha)
           have hO := hid fun w hg => rCa (hI R k) (hI Q k) KK zf.out (Nat.le_trans zg.out (by omega)) s1 s2 w hg
           have ho : Hid (0 < cmpQ (hI R k) (hI Q k) -> O = 6) := fun hc => by
                rw [cQp, hh0 R k hd, hh0 Q k ha] at hc;exact H6.out k hd ha hc
           have hn : Hid (¬ 0 < cmpQ (hI R k) (hI Q k) -> ∀ j (Y : j < R.length) (J : j < Q.length), j < k + 1 -> R[j] <= Q[j]) := fun hc j Y J hj => by
                rcases (by omega : j < k \/ j = k) with h3 | rfl
                ·exact hp.out j Y J h3
                ·rw [cQp, hh0 R j Y, hh0 Q j J] at hc
                 exact Rat.not_lt.1 hc
           generalize cmpQ (hI R (k : Int)) (hI Q (k : Int)) = cz at *;generalize hI R (k : Int) = rk at *;generalize hI Q (k : Int) = qk at *;have zB : (k : Int) < (P.length : Int) := by omega
           have H : Good wr.drew := (hg.below L).drewN 1;have l1 : w.heap.size + 1 < wr.heap.size := ck.lt;have l2 : d < wr.heap.size := Nat.lt_of_lt_of_le h9 L.size;have l3 : bf < wr.heap.size := Nat.lt_of_lt_of_le z2 L.size;have l4 : bg < wr.heap.size := Nat.lt_of_lt_of_le z3 L.size;clear s1 s2 hC D H6;by_cases hc : 0 < cz
           ·have M := hid (ho.out hc)
            clear ho hn;go_upto_region 33 with fail;go_region_held3 (fun w' => w'.cell? ⟨w.heap.size + 1, 2, none⟩ = some (.slice (some ⟨d, os, none⟩) S.length cs) /\ w'.cell? ⟨d, os + i, none⟩ = some (.slice (some ⟨bg, og, none⟩) P.length a) /\ w'.cell? ⟨bf, of + k, none⟩ = some (.string (RS rk)) /\ w'.cell? ⟨bg, og + k, none⟩ = some (.string (RS qk)))
             (first | exact ⟨v, x0, xf, xg⟩ | exact ⟨q_1_0, q_1_1, q_1_2, q_1_3⟩)
             (first
             | (go_at_call 62; refine (hO.out _ H).mono ?_; rintro e m ⟨_, rfl, rfl, V⟩
                have q_1_0 := zct V v;have q_1_1 := zct V x0;have q_1_2 := zct V xf;have q_1_3 := zct V xg;have zM : wr.heap.size <= m.heap.size := V.size;have zL := H.below V))
            have qB : Below wr.heap.size wr m := zbt (bdN wr 1) V;have zr := zbt L qB;go_wp2_with fail;go_ret;exact ⟨_, rfl, congrArg (Value.int .i64) M.out.symm, zr⟩
           ·have M := hid (hn.out hc)
            clear ho hn;go_upto_region 33 with fail;go_region_held3 (fun w' => w'.cell? ⟨w.heap.size + 1, 2, none⟩ = some (.slice (some ⟨d, os, none⟩) S.length cs) /\ w'.cell? ⟨d, os + i, none⟩ = some (.slice (some ⟨bg, og, none⟩) P.length a) /\ w'.cell? ⟨bf, of + k, none⟩ = some (.string (RS rk)) /\ w'.cell? ⟨bg, og + k, none⟩ = some (.string (RS qk)))
             (first | exact ⟨v, x0, xf, xg⟩ | exact ⟨q_1_0, q_1_1, q_1_2, q_1_3⟩)
             (first
             | (go_at_call 62; refine (hO.out _ H).mono ?_; rintro e m ⟨_, rfl, rfl, V⟩
                have q_1_0 := zct V v;have q_1_1 := zct V x0;have q_1_2 := zct V xf;have q_1_3 := zct V xg;have zM : wr.heap.size <= m.heap.size := V.size;have zL := H.below V))
            have qB : Below wr.heap.size wr m := zbt (bdN wr 1) V;have zu := zbt K qB;go_wp2_with fail;go_roundw
            case rel => exact ⟨k + 1, by go_num, by omega, M, zu⟩
            case measure =>
             show P.length - ((k : Int) + 1).toNat < P.length - (k : Int).toNat;omega
          ·obtain rfl : k = P.length := by omega
           have zx : ¬ (P.length : Int) < (P.length : Int) := by omega
           have M := hid (H0.out fun j Y J => hp.out j Y J (by rw [<- f.out]; exact Y));have zv := zbt z6 K;clear H6 H0 hp;go_wp2_with fail;go_roundw
           case rel => exact ⟨i + 1, pg, a, by go_num, Z, by rw [zj.out], zk, M, zv⟩
           case measure =>
                show S.length - ((i : Int) + 1).toNat < S.length - (i : Int).toNat;omega
        ·have M : Hid (O = errF P.length S[i]) := by
          have Y : sBd P.length b S i = errF P.length S[i] := by unfold sBd; rw [fTn b S Z, if_pos hE]
          unfold Hid;rw [ht.out, fEa Z (by rw [Y]; exact hE) t.out, Y]
         have zt : (errF P.length S[i] != 0) = true := by rw [bne_iff_ne]; exact hE
         generalize errF P.length S[i] = ez at *;clear n C;go_wp2_with fail;go_ret;exact ⟨_, rfl, congrArg (Value.int .i64) M.out.symm, hV⟩
       ·obtain rfl : i = S.length := by omega
        have M : Hid (O = 0) := by unfold Hid; rw [ht.out]; exact fEn t.out
        have zx : ¬ (S.length : Int) < (S.length : Int) := by omega
        go_wp2_with fail;go_ret;exact ⟨_, rfl, congrArg (Value.int .i64) M.out.symm, N⟩
     ·have M : Hid (O = 5) := by unfold Hid; rw [g.out, if_pos (by omega)]
      have zC : ((S.length : Int) != (U.length : Int) - 1) = true := by rw [bne_iff_ne]; omega
      clear g;go_wp2_with fail;go_ret;exact ⟨_, rfl, congrArg (Value.int .i64) M.out.symm, h8⟩
  ·have M : Hid (O = errF P.length b) := HR.out.trans (dEb hT hE)
   have zt : (errF P.length b != 0) = true := by rw [bne_iff_ne]; exact hE
   clear HR;generalize errF P.length b = ez at *;go_wp2_with fail;go_ret;exact ⟨_, rfl, congrArg (Value.int .i64) M.out.symm, h4⟩
open Go.Shelf
theorem sCa (w : World) (kz s0 s1 : Int) (V : Bool) (a0 a1 a2 a3 a4 a5 : Int) (ah : Bool) (vh : Value) (H : List StepQ) (lz : Int)
 (zZ : 0 <= kz) (yW : kz <= 255) (xh : -128 <= s0 /\ s0 <= 127) (xi : -128 <= s1 /\ s1 <= 127) (ha : ∀ x ∈ [a0, a1, a2, a3, a4, a5], -128 <= x /\ x <= 127) (hH : RdSt w vh H) (x4 : 0 <= lz) (_hl1 : lz <= 255) (hg : Good w) :
 Calls Tryz.prog 6 #[.agg #[.int .u8 kz, .int .i8 s0, .int .i8 s1, .bool V, .int .i8 a0, .int .i8 a1, .int .i8 a2, .int .i8 a3, .int .i8 a4, .int .i8 a5, .bool ah, vh], .int .u8 lz] w (Ret (fun r _ => r = .bool true) w) := by
 obtain ⟨kk, x3⟩ : ∃ k : Nat, kz.tmod 8 = (k : Int) := ⟨(kz.tmod 8).toNat, by have := Int.tmod_nonneg 8 zZ; omega⟩;have zA : Hid (H.length <= 3 -> ∀ w', Below w.heap.size w w' -> Good w' -> _) := fun h3 w' zT hg => m2o w' kz s0 s1 V kk x3 zZ yW xh xi a0 a1 a2 a3 a4 a5 ah ha vh H (hH.below zT) h3 hg;obtain ⟨p1, c1, rfl, hU, zU, -⟩ := hH.1;unfold maxLen at zU;clear hH ha zZ yW xh xi x3;obtain ⟨m1, x6⟩ : ∃ n, n = H.length := ⟨_, rfl⟩;rw [<- x6] at hU zA ⊢;clear x6;have zF : Hid (∀ w', _) := fun w' => fm0 w' kz s0 s1 V a0 a1 a2 a3 a4 a5 ah p1 m1 c1 (by omega)
 obtain ⟨f1, hX⟩ : ∃ f, f = decide (m1 <= 3) := ⟨_, rfl⟩;rw [<- hX] at zF;have yh : Hid (f1 = true -> m1 <= 3) := fun h => of_decide_eq_true (hX.symm.trans h);clear hX;go_enter Tryz.func6, Tryz.ntmps6;go_wp2_with fail;obtain ⟨W, hW⟩ := zex (w.alloc (.cells #[.int .u8 kz, .int .i8 s0, .int .i8 s1, .bool V, .int .i8 a0, .int .i8 a1, .int .i8 a2, .int .i8 a3, .int .i8 a4, .int .i8 a5, .bool ah, .slice p1 m1 c1] 31));have hB : Below w.heap.size w W := by rw [hW]; exact zal _ _
 have bx : BoxN W w.heap.size 31 [.int .u8 kz, .int .i8 s0, .int .i8 s1, .bool V, .int .i8 a0, .int .i8 a1, .int .i8 a2, .int .i8 a3, .int .i8 a4, .int .i8 a5, .bool ah, .slice p1 m1 c1] := by
  rw [hW];exact BoxN.new w #[.int .u8 kz, .int .i8 s0, .int .i8 s1, .bool V, .int .i8 a0, .int .i8 a1, .int .i8 a2, .int .i8 a3, .int .i8 a4, .int .i8 a5, .bool ah, .slice p1 m1 c1] 31 _ rfl
 rw [<- hW];clear hW;refine zR (k2a W (hg.below hB)) fun o1 hb1 => ?_;have yy := zbt hB hb1;have zI := bx.bl hb1;clear hb1 hB bx;obtain ⟨k0, k1, k2, k3, k4, k5, k6, k7, k8, k9, y9, ya⟩ := zk12 zI;go_wp2_with fail;refine zR (zF.out o1) fun o3 hp => ?_;have hl := zbt yy hp;have yt := zI.bl hp;clear hp yy zI k0 k1 k2 k3 k4 k5 k6 k7 k8 k9 y9 ya zF;cases hX : f1
 ·go_wp2_with fail
  refine zR (k2a o3 (hg.below hl)) fun o4 zg => ?_;go_wp2_with fail;go_ret;exact ⟨_, rfl, rfl, (zbt hl zg)⟩
 obtain ⟨k0, k1, k2, k3, k4, k5, k6, k7, k8, k9, y9, ya⟩ := zk12 yt;go_wp2_with fail;refine (zA.out (yh.out hX) o3 hl (hg.below hl)).mono ?_;rintro e o4 ⟨_, rfl, ⟨pp, cp, pt, ct, pb, cb, pu, cu, ps, cs, P, T, B, H0, U, n, rfl, hP, hT, vk, yG, xE, hD, yI, zO⟩, zg⟩;have yz := zbt hl zg;clear zg hl yt k0 k1 k2 k3 k4 k5 k6 k7 k8 k9 y9 ya zA;subst xE;have xv : Hid (2 <= P.length) := by unfold Hid; rw [hP, sc0]; exact sPt kk
 have yH : ∀ z : Int, FrP 2 26 (ptI P z) := pIf (by rw [hP]; exact fl0 kk s0 s1 V);have vc : T.length <= 8 := by rw [hT]; exact sl0 kk
 have xr := hid yH;clear yH;have x7 : MeshOK P T 2 := by rw [hP, hT]; exact sk0 kk s0 s1 V
 have vb : P.length <= 6 := by rw [hP, sc0]; exact se0 kk
 have xP := hD.m.plen;have h9 : (uTo (n + 1)).length = n + 1 := uTl _;rw [h9] at hD ⊢;have HD := hid hD;have yi := hid yI;have va := hid x7;have yd := hid yG;clear hD yI x7 hP hT yG h9 xP;go_upto_region 4 with fail;obtain ⟨o5, z7⟩ : ∃ W, W = (o4.alloc (.cells #[.slice pp P.length cp, .slice pt T.length ct] 41)).alloc (.cells #[.slice pb P.length cb, .slice pu (n + 1) cu, .slice ps n cs] 45) := ⟨_, rfl⟩;have zd : Below o4.heap.size o4 o5 := by rw [z7]; exact zal2 _ _ _
 obtain ⟨g6, zV⟩ : ∃ g, g = o4.heap.size := ⟨_, rfl⟩;obtain ⟨g7, zW⟩ : ∃ g, g = o4.heap.size + 1 := ⟨_, rfl⟩;have cM : BoxN o5 g6 41 [.slice pp P.length cp, .slice pt T.length ct] := by rw [z7]; exact (BoxN.new _ _ _ _ zV.symm).alloc _
 have cD : BoxN o5 g7 45 [.slice pb P.length cb, .slice pu (n + 1) cu, .slice ps n cs] := by rw [z7]; exact BoxN.new _ _ _ _ (by simp [zW])
 have yA := zbt yz zd;rw [<- z7, <- zW, <- zV];clear z7 zV zW;obtain ⟨G, zf⟩ : ∃ S, S = sTo P.length B H0 n := ⟨_, rfl⟩;have Q : Hid (G.length = n) := by unfold Hid; rw [zf, sTl]
 have xj : ∀ i (z : Int), i < n -> hI (fldN B G i) z <= hI (fldN B G (i + 1)) z := fun i z hi => by
  rw [zf, fNt _ _ _ _ _ (by omega), fNt _ _ _ _ _ (by omega)];exact tTu _ _ _ yd.out _ _
 have xx := hid xj;rw [<- zf] at HD zO yi;clear zf xj;have yK := zO.below zd;have zb := hid (HD.out.below zd);clear zO zd HD yz;obtain ⟨us, h9, y4, y3⟩ := yK;rw [Q.out] at h9 y4;have zy : ∀ u ∈ us, u.oneCell' = true := fun u hu => by
  obtain ⟨i, hi, rfl⟩ := List.getElem_of_mem hu;obtain ⟨p, c, e⟩ := (y3 i _ _ (List.getElem?_eq_getElem hi) (List.getElem?_eq_getElem (by rw [Q.out, <- h9]; exact hi))).shape;rw [e]; rfl
 have ht := hid zy;have yo := hid y3;have zr := hid (osc (y4.alloc (.cells #[.slice pb P.length cb] 33)));have hw := hid (oo2 o5 o5.heap.size 33 (.slice pb P.length cb) (Nat.le_refl _));have zs := hid h9;have v1 := cD.lt;have d0 := cD.cell 0 rfl;have d2 := cD.cell 2 rfl;have xy := (cD.alloc (.cells #[.slice pb P.length cb] 33)).cell 2 rfl;clear zy y3 y4 h9;obtain ⟨j0, zY, y5, y6, y7⟩ := info_parts iFd
 go_upto_region 5 with (at_builtin; refine wLa _ rfl _ _ 43 rfl o5.heap.size 33 j0 (.slice none 0 0) 1 24 Tryz.underlying43 zY y5 y6 y7 rfl (by decide) _ _ _ rfl hw.out _ n us rfl zr.out ht.out (by unfold maxLen; omega) (by omega) (by simp) ?_
                        intro v3 oA I he;rw [Nat.add_comm 1 n] at I;obtain ⟨ga, ca, rfl, vf, yS, ve, v5⟩ := obk I (by omega))
 have h4 : Below o5.heap.size o5 oA := ((Below.refl o5.heap.size o5).alloc (Nat.le_refl _) (.cells #[.slice pb P.length cb] 33)).grown he (by simp) (fun j hj => (hw.out.lt j hj).1);have v7 : Hid (∀ i, i <= n -> (fldN B G i).length = P.length) := fun i hi => zb.out.fl _ (fNm B G (by rw [Q.out]; exact hi))
 obtain ⟨A, hO⟩ : ∃ U, U = Value.slice pb P.length cb :: us := ⟨_, rfl⟩;have N : Hid (A.length = n + 1) := by unfold Hid; rw [hO, List.length_cons, zs.out]
 have zD : Hid (∀ (i : Nat) (u : Value) (F : List Rat), A[i]? = some u -> (B :: G)[i]? = some F -> RdQ oA u F) := fun i u F hu hF => by
  rw [hO] at hu;cases i with
  | zero => cases hu; cases hF; exact RdC.below zb.out.base h4
  | succ j => exact RdC.below (yo.out j u F hu hF).rd h4
 have h8 : oA.ownsRow o5.heap.size 33 1 (.slice (some ⟨ga, 0, none⟩) (n + 1) ca) (n + 1) A := by rw [hO]; exact I
 have yl : Hid (RdF oA (.slice (some ⟨ga, 0, none⟩) (n + 1) ca) (B :: G)) := by
  refine ⟨A, ?_, zD.out⟩;rw [List.length_cons, Q.out];exact RdC.of_owns h8
 have zt : Hid (∀ u ∈ A, u.oneCell' = true) := fun u hu => by
  rw [hO] at hu;rcases List.mem_cons.1 hu with rfl | h
  ·rfl
  ·exact ht.out u h
 clear hO;have yB := zbt yA h4;have aM := cM.bl h4;have aD := cD.bl h4;have yf := hid (zb.out.below h4);have zo := hid h8;clear I h8 he hw zr yo ht d0 d2 xy v1 cM cD yA zb h4 yi yd xr xx zs yh;obtain ⟨c, hc⟩ : ∃ c : Nat, lz.tmod 6 = (c : Int) := ⟨(lz.tmod 6).toNat, by have := Int.tmod_nonneg 6 x4; omega⟩;have xI : c <= 5 := by have := Int.tmod_lt_of_pos lz (show (0 : Int) < 6 by decide); omega
 have vl : IntKind.u8.wrap (c : Int) = (c : Int) := IntWalk.u8_in _ (by omega);have vm : IntKind.i64.wrap (c : Int) = (c : Int) := by rw [IntKind.wrap_i64]; omega
 clear x4 _hl1;obtain ⟨i0, yT, xn, xo, zm⟩ := info_parts iL2;go_wp2_with fail;go_loopw [8, 9] (fun t8 t9 wr => ∃ i : Nat, t9 = .int .i64 i /\ i <= c /\ wr.ownsRow oA.heap.size 92 3 t8 i (cLy (layTo i)) /\ Below oA.heap.size oA wr) (fun _ t9 _ => c - (RowKit.intOf t9).toNat)
 case atStart => exact ⟨0, rfl, Nat.zero_le _, World.ownsRow_nil _ _ _ _, Below.refl _ _⟩
 case round =>
  obtain ⟨i, rfl, hi, t, Z⟩ := hrel;obtain ⟨p8, c8, rfl⟩ := oRs t;rcases Nat.lt_or_ge i c with zj | zj
  ·have xT := Z.size
   obtain ⟨bv, zS⟩ := zex ((48 + i).toUInt8 : UInt8);have yL : (bv.toNat : Int) = 48 + (i : Int) := by
    rw [zS];have : (48 + i).toUInt8.toNat = 48 + i := by
     simp [Nat.toUInt8];omega
    rw [this]; omega
   have ye : Hid (cLy (layTo (i + 1)) = cLy (layTo i) ++ [.string ⟨#[117, bv]⟩, .string ⟨#[48]⟩, .string ⟨#[]⟩]) := by
    unfold Hid;rw [lTn, cLs, zS];rfl
   have vn : IntKind.u8.wrap (i : Int) = (i : Int) := IntWalk.u8_in _ (by omega);have vo : IntKind.u8.wrap (48 + (i : Int)) = 48 + (i : Int) := IntWalk.u8_in _ (by omega);have xL : (i : Int) < (c : Int) := by omega
   have yQ : (convert 90 9 (.slice (some ⟨wr.heap.size, 0, none⟩) 2 2)).run Tryz.prog (wr.alloc (.cells #[.int .u8 117, .int .u8 (48 + (i : Int))] 5)) = .ok (.string ⟨#[117, bv]⟩) (wr.alloc (.cells #[.int .u8 117, .int .u8 (48 + (i : Int))] 5)) := by
    have h1 := run_convert_bytes_back (P := Tryz.prog) (wr.alloc (.cells #[.int .u8 117, .int .u8 (48 + (i : Int))] 5)) 90 9 5 ⟨wr.heap.size, 0, none⟩ 2 [117, bv] Tryz.underlying90 Tryz.underlying5 Tryz.underlying9 (fun j hj => by
     have X := BoxN.new wr #[.int .u8 117, .int .u8 (48 + (i : Int))] 5 _ rfl
     match j, hj with
     | 0, _ => exact X.cell 0 rfl
     | 1, _ =>
       show _ = some (Value.int .u8 (bv.toNat : Int));rw [yL];exact X.cell 1 rfl)
    exact h1
   obtain ⟨nm, xe⟩ : ∃ s : ByteArray, s = ⟨#[117, bv]⟩ := ⟨_, rfl⟩;rw [<- xe] at yQ ye;clear xe zS yL;have z9 := (t.alloc (.cells #[.int .u8 117, .int .u8 (48 + (i : Int))] 5)).alloc (.cells #[.string nm, .string ⟨#[48]⟩, .string ⟨#[]⟩] 92);have hp := (Z.alloc xT (.cells #[.int .u8 117, .int .u8 (48 + (i : Int))] 5)).alloc (by simp; omega) (.cells #[.string nm, .string ⟨#[48]⟩, .string ⟨#[]⟩] 92);clear t
   go_wp2_with (at_builtin; refine wpList_append_own _ rfl _ _ 89 rfl oA.heap.size 92 i0 (.agg #[.string ⟨#[]⟩, .string ⟨#[]⟩, .string ⟨#[]⟩]) 3 48 Tryz.underlying89 yT xn xo zm rfl (by decide) _ _ _ rfl z9 ⟨wr.heap.size + 1, 0, none⟩ 1 1 [.string nm, .string ⟨#[48]⟩, .string ⟨#[]⟩] rfl rfl (by intro j u hu; have := cte (wr.alloc (.cells #[.int .u8 117, .int .u8 (48 + (i : Int))] 5)) (.string nm) (.string ⟨#[48]⟩) (.string ⟨#[]⟩) 92 j u hu; simpa using this) (tsr _ _ _) (by unfold maxLen; omega) (by omega) (by simp; omega) ?_
                intro v9 w9 z8 zw xR;clear xR;have xF : Below oA.heap.size oA w9 := hp.grown zw (by simp; omega) (fun q hq => (z9.lt q hq).1))
   rw [<- ye.out] at z8;clear z9 hp zw yQ;go_roundw
   case rel => exact ⟨i + 1, by go_num, by omega, z8, xF⟩
   case measure => simp [RowKit.intOf]; omega
  ·obtain rfl : c = i := by omega
   obtain ⟨oB, xM⟩ : ∃ x : World, x = wr := ⟨_, rfl⟩;subst xM;have yC := zbt yB Z;have yj : Hid (RdLy oB (.slice p8 c c8) (layTo c)) := by unfold Hid RdLy; rw [lTl]; exact RdC.of_owns t
   have bM := aM.bl Z;have bD := aD.bl Z;have Y := hid (yf.out.below Z);have zq := hid (yl.out.below Z);have hC : Hid (∀ (i : Nat) (u : Value) (F : List Rat), A[i]? = some u -> (B :: G)[i]? = some F -> RdQ oB u F) := fun i u F a b => RdC.below (zD.out i u F a b) Z;have hA : Hid (oB.ownsRow o5.heap.size 33 1 (.slice (some ⟨ga, 0, none⟩) (n + 1) ca) (n + 1) A) := WRA zo.out Z;have yR : ga < oB.heap.size := Nat.lt_of_lt_of_le yS Z.size;have zC : Hid (∀ M L vh w', Below oB.heap.size oB w' -> Good w' -> (∀ F ∈ M :: L, F.length = P.length) -> (∀ F ∈ M :: L, ∀ q ∈ F, Sz 3 q) -> RdF w' vh (M :: L) -> _) := fun M L vh w' X hg' h1 h2 hH => sly w' _ _ _ vh P T 3 c M L (RdC.below Y.out.p X) (RdC.below Y.out.t X) Y.out.m (by have := xv.out; omega) (yj.out.below X) xI hH h1 h2 hg'
   have h1 := zC.out B G _ oB (Below.refl _ _) (hg.below yC) Y.out.fl Y.out.fs zq.out;obtain ⟨E1, zM⟩ : ∃ E, E = ofE P T B G c := ⟨_, rfl⟩;rw [<- zM] at h1;have D := hid zM;obtain ⟨m0, m1⟩ := zk2 bM;clear zM t Z zD yl yf zo aM aD yB;go_wp2_with fail;refine h1.mono ?_;clear h1;rintro e oC ⟨_, rfl, ⟨q1, q2, q3, d1, d2, d3, xb, xU, xZ, rfl, hx, xk, xl⟩, hR⟩;have hL := hid xk;have hM := hid xl;have HX := hid hx;have yD := zbt yC hR;have cM := bM.bl hR;have cD := bD.bl hR;obtain ⟨n1, z4⟩ : ∃ m, m = xb.length := ⟨_, rfl⟩;obtain ⟨n2, z5⟩ : ∃ m, m = xU.length := ⟨_, rfl⟩;obtain ⟨n3, z6⟩ : ∃ m, m = xZ.length := ⟨_, rfl⟩;rw [<- z4, <- z5, <- z6] at HX ⊢;have xs := hid z4;have xt := hid z5;have xu := hid z6;clear hx xk xl z4 z5 z6 m0 m1 bM bD;go_upto_region 11 with fail;obtain ⟨xz, hY⟩ : ∃ g, g = oC.heap.size := ⟨_, rfl⟩;obtain ⟨W, hW⟩ := zex (oC.alloc (.cells #[.slice q1 n1 d1, .slice q2 n2 d2, .slice q3 n3 d3] 45));have hn : Below oC.heap.size oC W := by rw [hW]; exact zal _ _
   have bX : BoxN W xz 45 [.slice q1 n1 d1, .slice q2 n2 d2, .slice q3 n3 d3] := by rw [hW]; exact BoxN.new _ _ _ _ hY.symm
   rw [<- hW, <- hY];have zG := hid (HX.out.below hn);have hN := zbt yD hn;have zQ := zbt hR hn;have wM := cM.bl hn;have wD := cD.bl hn;clear hW hY hn HX cM cD hR yD;obtain ⟨x0, x1, x2⟩ := zk3 bX;have o : Hid (E1 ≠ 0 -> ∀ w', Below W.heap.size W w' -> Calls Tryz.prog 15 #[.agg #[.slice q1 n1 d1, .slice q2 n2 d2, .slice q3 n3 d3]] w' (Ret (fun r _ => r = .bool true) w')) := fun h w' X => by
    obtain ⟨e1, e2, e3⟩ := hL.out h;have R := n2a w' _ _ _ xb xU xZ (zG.out.below X) (by rw [e1, e2, e3]; simp);rw [e1, e2, e3] at R;exact R
   by_cases hc0 : c = 0
   ·have d : E1 = 13 := by rw [D.out]; unfold ofE; rw [if_pos (by omega)]
    have hz : ((c : Int) == 0) = true := by rw [beq_iff_eq]; omega
    have C := hid (o.out (by rw [d]; decide));have xq : Hid (∀ w', Good w' -> Calls Tryz.prog 34 #[.slice none 0 0] w' (Ret (fun r _ => r = .int .i64 13) w')) := fun w' hg' => by
     have R := cj0 w' _ [] (RdLy.nil _) (by simp) (by simp) hg';rw [show colE [] = 13 by unfold colE; simp] at R;exact R
    rw [d];clear d D hL hM o;go_wp2_with fail;refine zR (C.out W (Below.refl _ _)) fun o7 hb7 => ?_;have hm := zbt hN hb7;clear x0 x1 x2;go_wp2_with fail;refine zR (xq.out o7 (hg.below hm)) fun o8 v => ?_;have xA := zbt hm v;go_wp2_with fail;go_ret;exact ⟨_, rfl, rfl, xA⟩
   have hz : ((c : Int) == 0) = false := by rw [beq_eq_false_iff_ne]; omega
   by_cases hU : c < 2
   ·have d : E1 = 13 := by rw [D.out]; unfold ofE; rw [if_pos (by omega)]
    have zm : (c : Int) < 2 := by omega
    have C := hid (o.out (by rw [d]; decide));rw [d];clear d D hL hM o;go_wp2_with fail;refine zR (C.out W (Below.refl _ _)) fun o7 hb7 => ?_;have hm := zbt hN hb7;clear x0 x1 x2;go_wp2_with fail;go_ret;exact ⟨_, rfl, rfl, hm⟩
   have zm : ¬ (c : Int) < 2 := by omega
   by_cases zU : n + 2 = c
   ·have xS : ((n : Int) + 1 != (c : Int) - 1) = false := by rw [bne_eq_false_iff_eq]; omega
    have d : E1 = 0 := by rw [D.out]; unfold ofE; rw [if_neg hU, Q.out, if_neg (by omega)]; exact Y.out.ok
    obtain ⟨e1, e2, e3⟩ := hM.out d;rw [Q.out] at e2;have ym : Hid (∀ w', Below W.heap.size W w' -> Good w' -> Calls Tryz.prog 17 #[.agg #[.slice q1 n1 d1, .slice q2 n2 d2, .slice q3 n3 d3], .agg #[.slice pb P.length cb, .slice pu (n + 1) cu, .slice ps n cs]] w' (Ret (fun r _ => r = .bool true) w')) := fun w' X hg' => by
     have hd := (Y.out.below zQ).below X;have R := s2a w' _ _ _ _ _ _ xb xU (B.map RS) (uTo (n + 1)) xZ (G.map fun F => F.map RS) (zG.out.below X) ⟨hd.base.toS, hd.unit, hd.surf.toTx⟩ hg';rw [decide_eq_true ⟨e1, e2, e3⟩] at R;exact R
    rw [d];clear e1 e2 e3 d D hL hM o;obtain ⟨y0, y1, y2⟩ := zk3 wD;go_wp2_with fail;refine zR (ym.out W (Below.refl _ _) (hg.below hN)) fun oD hb7 => ?_;have xB := zbt hN hb7;have zh := zbt zQ hb7;have dM := wM.bl hb7;have dD := wD.bl hb7;clear x0 x1 x2 y0 y1 y2 ym zG xs xt xu wM wD bX hb7 zQ;have HG : Hid (∀ w', Below oD.heap.size oD w' -> ∀ (j : Nat) (u : Value), A[j]? = some u -> w'.cell? ⟨ga, j, none⟩ = some u) := fun w' X j u hu => by
     have R := hA.out.cells rfl j _ hu;rw [aps, Nat.zero_add] at R;have zT := zbt zh X;exact (zcq zT yR R :)
    have hJ := hid (osc ((WRA hA.out zh).alloc (.cells #[] 33)));have hv := hid (on0 oD oD.heap.size 33 (Nat.le_refl _))
    go_upto_region 20 with (at_builtin; refine wLa _ rfl _ _ 43 rfl oD.heap.size 33 j0 (.slice none 0 0) 1 24 Tryz.underlying43 zY y5 y6 y7 rfl (by decide) _ _ _ rfl hv.out _ (n + 1) A rfl hJ.out zt.out (by unfold maxLen; omega) (by omega) (by simp) ?_
                            intro v4 oE h7 zv;rw [Nat.zero_add] at h7;obtain ⟨gT, cT, lT, rfl, xK, bT, vd, yO, x5, xQ⟩ := boo h7 (by omega))
    have xG : Below oD.heap.size oD oE := ((Below.refl oD.heap.size oD).alloc (Nat.le_refl _) (.cells #[] 33)).grown zv (by simp) (fun j hj => (hv.out.lt j hj).1);have zz : Hid (lT.length = cT) := x5;clear h7 zv hJ hv xQ x5 zY y5 y6 y7 yT xn xo zm;go_wp2_with fail;go_loopw [13] (fun t13 wr => ∃ i : Nat, t13 = .int .i64 i /\ i <= n + 1 /\ BoxN wr gT 33 (turnV A lT i) /\ Below oD.heap.size oD wr) (fun t13 _ => n + 1 - (RowKit.intOf t13).toNat)
    case atStart => exact ⟨0, rfl, Nat.zero_le _, bT, xG⟩
    case round =>
     obtain ⟨i, rfl, hi, bt, Z⟩ := hrel;rcases Nat.lt_or_ge i (n + 1) with zj | zj
     ·obtain ⟨k, hk⟩ : ∃ k : Nat, k + i = n := ⟨n - i, by omega⟩
      have yY : k < A.length := by rw [N.out]; omega
      have z2 : A[k]? = some A[k] := List.getElem?_eq_getElem yY;have yX : k < (B :: G).length := by rw [List.length_cons, Q.out]; omega
      obtain ⟨p5, c5, e5, -, -, -⟩ := (hC.out k _ _ z2 (List.getElem?_eq_getElem yX)).toS.open;obtain ⟨m5, x8⟩ : ∃ m, m = ((B :: G)[k].map RS).length := ⟨_, rfl⟩;rw [<- x8] at e5;clear x8;have xg := HG.out wr Z k _ z2;rw [e5] at xg z2;have yV : i < (turnV A lT i).length := by rw [tVl, zz.out]; omega
      obtain ⟨old, zx⟩ : ∃ u, (turnV A lT i)[i]? = some u := ⟨_, List.getElem?_eq_getElem yV⟩;have z0 := bt.cell i zx;have f0 := bt.frozen i;have ys := bt.set i (.slice p5 m5 c5);have xw : Hid ((turnV A lT i).set i (.slice p5 m5 c5) = turnV A lT (i + 1)) := by
       unfold Hid;rw [turnV, N.out, show n + 1 - 1 - i = k by omega, z2];rfl
      rw [xw.out] at ys;have yN := Z.setCell (p := ⟨gT, i, none⟩) xK (.slice p5 m5 c5);have vj : (n : Int) - (i : Int) = (k : Int) := by omega
      have v6 : (k : Int) < (n : Int) + 1 := by omega
      have xL : (i : Int) < (n : Int) + 1 := by omega
      have vi : i < cT := by omega
      clear zx yV z2 yY yX e5 hk;go_wp2_with fail;go_roundw
      case rel => exact ⟨i + 1, by go_num, by omega, ys, yN⟩
      case measure =>
       show n + 1 - ((i : Int) + 1).toNat < n + 1 - (i : Int).toNat;omega
     ·have zX : i = n + 1 := by omega
      have vg : ¬ (i : Int) < (n : Int) + 1 := by omega
      obtain ⟨oF, xN⟩ : ∃ x : World, x = wr := ⟨_, rfl⟩;subst xN;have zP := zbt zh Z;have yE := zbt xB Z;have zc : Hid (∀ w', Below oF.heap.size oF w' -> RdF w' (.slice (some ⟨gT, 0, none⟩) (n + 1) cT) (B :: G).reverse) := fun w' X => by
       have hq := bt.bl X;rw [zX, <- N.out] at hq;have R := RdF.turned (S := B :: G) (by rw [N.out, List.length_cons, Q.out]) (fun i u F a b => RdC.below (hC.out i u F a b) ((zbt zP X))) hq zz.out (by rw [N.out]; omega) yO;rw [List.length_cons, Q.out] at R;exact R
      obtain ⟨M, L, ze⟩ : ∃ M L, (B :: G).reverse = M :: L := by
       cases h : (B :: G).reverse with
       | nil => simp at h
       | cons x l => exact ⟨x, l, rfl⟩
      have yJ : L.length = n := by
       have R := congrArg List.length ze;rw [List.length_reverse, List.length_cons, Q.out, List.length_cons] at R;omega
      have z3 : ∀ F ∈ M :: L, F ∈ B :: G := fun F hF => by rw [<- ze] at hF; exact List.mem_reverse.1 hF
      rw [ze] at zc;have hs : Hid (∀ F ∈ M :: L, F.length = P.length) := fun F hF => Y.out.fl F (z3 F hF);have zn : Hid (∀ F ∈ M :: L, ∀ q ∈ F, Sz 3 q) := fun F hF => Y.out.fs F (z3 F hF);have hG := hid yJ;have h1 := zC.out M L _ oF zP (hg.below yE) hs.out zn.out (zc.out oF (Below.refl _ _));obtain ⟨E2, zN⟩ : ∃ E, E = ofE P T M L c := ⟨_, rfl⟩;rw [<- zN] at h1;have yg : Hid (E2 = depE P T (M.map RS) (uTo (n + 1)) (L.map fun F => F.map RS)) := by unfold Hid; rw [zN]; unfold ofE; rw [if_neg hU, hG.out, if_neg (by omega)]
      have fM := dM.bl Z;have fD := dD.bl Z;obtain ⟨m0, m1⟩ := zk2 fM;have v8 := hid zX;clear zX ze yJ z3 zN HG zC bt Z zh zj dM dD hC zq hA zt zz N yj;go_wp2_with fail;refine h1.mono ?_;clear h1;rintro e oG ⟨_, rfl, ⟨r1, r2, r3, k1, k2, k3, yb, yU, yZ, rfl, hy, xm, y8⟩, v⟩;rw [hG.out] at y8;have yp := hid xm;have yq := hid y8;have HY := hid hy;have xC := zbt yE v;have xH := zbt zP v;have gM := fM.bl v;have gD := fD.bl v;obtain ⟨n4, zk⟩ : ∃ m, m = yb.length := ⟨_, rfl⟩;obtain ⟨n5, xa⟩ : ∃ m, m = yU.length := ⟨_, rfl⟩;obtain ⟨n6, xc⟩ : ∃ m, m = yZ.length := ⟨_, rfl⟩;rw [<- zk, <- xa, <- xc] at HY ⊢;have hK : Hid (∀ w', Below oG.heap.size oG w' -> RdF w' (.slice (some ⟨gT, 0, none⟩) (n + 1) cT) (M :: L)) := fun w' X => zc.out w' ((zbt v X));obtain ⟨bq, oq, cq, K, yM, yP⟩ := (hK.out oG (Below.refl _ _)).cells (by simp);injection K with K eq2 eq3
      injection K with K
      injection K with K eq4 eq5
      obtain ⟨hr, hh, hV, zl⟩ := yP 0 (by simp);rw [List.getElem_cons_zero] at hV zl;rw [hs.out M (by simp)] at hV zl;rw [<- K, <- eq4, Nat.zero_add] at hV;rw [<- K] at yM;have yk := hid zl;clear K eq2 eq3 eq4 eq5 yP zl hy xm y8 zk xa xc m0 m1 fM fD v;have xX := (gD.alloc (.cells #[.slice r1 n4 k1, .slice r2 n5 k2, .slice r3 n6 k3] 45)).cell 0 rfl;have xY := (gD.alloc (.cells #[.slice r1 n4 k1, .slice r2 n5 k2, .slice r3 n6 k3] 45)).cell 1 rfl;have v0 := (gD.alloc (.cells #[.slice r1 n4 k1, .slice r2 n5 k2, .slice r3 n6 k3] 45)).cell 2 rfl;go_upto_region 26 with fail;obtain ⟨zJ, hZ⟩ : ∃ g, g = oG.heap.size := ⟨_, rfl⟩;obtain ⟨O, z1⟩ : ∃ g, g = oG.heap.size + 1 := ⟨_, rfl⟩;obtain ⟨W2, hQ⟩ : ∃ W, W = (oG.alloc (.cells #[.slice r1 n4 k1, .slice r2 n5 k2, .slice r3 n6 k3] 45)).alloc (.cells #[.slice pb P.length cb, .slice pu (n + 1) cu, .slice ps n cs] 45) := ⟨_, rfl⟩;have ho : Below oG.heap.size oG W2 := by rw [hQ]; exact zal2 _ _ _
      have zH : BoxN W2 zJ 45 [.slice r1 n4 k1, .slice r2 n5 k2, .slice r3 n6 k3] := by rw [hQ]; exact (BoxN.new _ _ _ _ hZ.symm).alloc _
      have y : BoxN W2 O 45 [.slice pb P.length cb, .slice pu (n + 1) cu, .slice ps n cs] := by rw [hQ]; exact BoxN.new _ _ _ _ (by simp [z1])
      rw [<- hQ, <- z1, <- hZ];have xd : zJ ≠ O := by omega
      have J : oG.heap.size <= O := by omega
      have xJ := zcq ho yM hV;clear hQ hZ z1 xX xY v0 hV;have q0 : Below oG.heap.size oG W2.drew := ho.trans ((bdN W2 1).mono ho.size);have yw := y.frozen 0;have yx := y.frozen 2;have yu := y.cell 0 rfl;have yv := y.cell 2 rfl;have za := y.set 0 (.slice hr P.length hh);have xp := za.cell 2 rfl;have yc := za.frozen 2;have z4 : (0 : Int) < (n : Int) + 1 := by omega
      have z5 : (1 : Int) <= (n : Int) + 1 := by omega
      have x9 : (n : Int) + 1 <= (cT : Int) := by omega
      have zk : 1 <= n + 1 := by omega
      go_cut [16] (fun s wx => s = .pointer (some ⟨O, 0, none⟩) /\ ∃ pz, (2 <= n + 1 -> pz = some ⟨gT, 1, none⟩) /\ BoxN wx O 45 [.slice hr P.length hh, .slice pu (n + 1) cu, .slice pz n (cT - 1)] /\ BoxN wx zJ 45 [.slice r1 n4 k1, .slice r2 n5 k2, .slice r3 n6 k3] /\ Below oG.heap.size oG wx)
      case first =>
       rcases (by omega : cT = 1 \/ ¬ cT = 1) with zK | zK
       ·subst zK
        obtain rfl : n = 0 := by omega
        go_region;all_goals
         go_wp2_with fail;go_meet;exact ⟨rfl, some ⟨gT, 0, none⟩, fun h => by omega, ((y.set 0 (.slice hr P.length hh)).set 2 (.slice (some ⟨gT, 0, none⟩) 0 0)).drew, (zH.gb (gst (gst (grl W2 (some O)) 0 _) 2 _) (fun e => xd (Option.some.inj e).symm)).drew, ((ho.setCell (p := ⟨O, 0, none⟩) J _).setCell (p := ⟨O, 2, none⟩) J _).drew⟩
       ·have v2 : ¬ 1 = cT := fun h => zK h.symm
        go_region;all_goals
         go_wp2_with fail;go_meet;exact ⟨rfl, some ⟨gT, 1, none⟩, fun _ => rfl, ((y.set 0 (.slice hr P.length hh)).set 2 (.slice (some ⟨gT, 1, none⟩) n (cT - 1))).drew, (zH.gb (gst (gst (grl W2 (some O)) 0 _) 2 _) (fun e => xd (Option.some.inj e).symm)).drew, ((ho.setCell (p := ⟨O, 0, none⟩) J _).setCell (p := ⟨O, 2, none⟩) J _).drew⟩
      case rest =>
      obtain ⟨rfl, pz, xf, zu, yr, h0⟩ := hcut;obtain ⟨oH, xO⟩ : ∃ x : World, x = wc := ⟨_, rfl⟩;subst xO;have yF := zbt xC h0;have zi := zbt xH h0;have xD := gM.bl h0;have yn : Hid (∀ w', Below oH.heap.size oH w' -> RdF w' (.slice pz n (cT - 1)) L) := fun w' X => by
       have R := hK.out w' ((zbt h0 X));rw [show n + 1 = (M :: L).length by rw [List.length_cons, hG.out]] at R;have h6 := RdF.tl R (by simp) (p := pz) (fun h => by rw [List.length_cons, hG.out] at h; exact xf h);rw [List.length_cons, hG.out] at h6;exact h6
      have zp : Hid (∀ w', Below oH.heap.size oH w' -> RdQ w' (.slice hr P.length hh) M) := fun w' X => RdC.below yk.out ((zbt h0 X));have hf := l2a oH _ _ _ _ _ P T 3 _ _ _ (dTo (RdC.below Y.out.p zi) (RdC.below Y.out.t zi) Y.out.m (zp.out oH (Below.refl _ _)) (RdC.below Y.out.unit zi) (yn.out oH (Below.refl _ _)) hs.out zn.out) (fun u hu => by
       unfold uTo at hu;obtain ⟨i, -, rfl⟩ := List.mem_map.1 hu;show 2 < 1000000000;decide) (hg.below yF)
      rw [<- yg.out] at hf;have hf := hid hf;have zB : Hid (E2 ≠ 0 -> ∀ w', Below oH.heap.size oH w' -> Calls Tryz.prog 15 #[.agg #[.slice r1 n4 k1, .slice r2 n5 k2, .slice r3 n6 k3]] w' (Ret (fun r _ => r = .bool true) w')) := fun h w' X => by
       obtain ⟨e1, e2, e3⟩ := yp.out h;have R := n2a w' _ _ _ yb yU yZ (HY.out.below ((zbt h0 X))) (by rw [e1, e2, e3]; simp);rw [e1, e2, e3] at R;exact R
      have zE : Hid (E2 = 0 -> ∀ w', Below oH.heap.size oH w' -> Good w' -> Calls Tryz.prog 17 #[.agg #[.slice r1 n4 k1, .slice r2 n5 k2, .slice r3 n6 k3], .agg #[.slice hr P.length hh, .slice pu (n + 1) cu, .slice pz n (cT - 1)]] w' (Ret (fun r _ => r = .bool true) w')) := fun h w' X hg' => by
       obtain ⟨e1, e2, e3⟩ := yq.out h;have R := s2a w' _ _ _ _ _ _ yb yU (M.map RS) (uTo (n + 1)) yZ (L.map fun F => F.map RS) (HY.out.below ((zbt h0 X))) ⟨(zp.out w' X).toS, RdC.below Y.out.unit ((zbt zi X)), (yn.out w' X).toTx⟩ hg';rw [decide_eq_true ⟨e1, e2, e3⟩] at R;exact R
      obtain ⟨m0, m1⟩ := zk2 xD;obtain ⟨x0, x1, x2⟩ := zk3 zu;clear yg yp yq hK zc yk xf z4 z5 x9 zk yw yx yu yv za xp yc xJ zH y q0 ho;go_wp2_with fail;refine hf.out.mono ?_;rintro e oI ⟨_, rfl, rfl, hS⟩;have zL := zbt yF hS;have xV := yr.bl hS;have xW := zu.bl hS;clear m0 m1 x0 x1 x2;obtain ⟨x0, x1, x2⟩ := zk3 xW;obtain ⟨y0, y1, y2⟩ := zk3 xV;by_cases hr0 : E2 = 0
      ·have HF := hid (zE.out hr0)
       clear zE zB hf;subst hr0;go_wp2_with fail;refine zR (HF.out oI hS (hg.below zL)) fun oJ hbJ => ?_;go_wp2_with fail;go_ret;exact ⟨_, rfl, rfl, (zbt zL hbJ)⟩
      ·have HF := hid (zB.out hr0)
       have vp : (E2 != 0) = true := by rw [bne_iff_ne]; exact hr0
       clear zE zB hf;go_wp2_with fail;refine zR (HF.out oI hS) fun oJ hbJ => ?_;go_wp2_with fail;go_ret;exact ⟨_, rfl, rfl, (zbt zL hbJ)⟩
   ·have d : E1 = 5 := by rw [D.out]; unfold ofE; rw [if_neg hU, Q.out, if_pos zU]
    have xS : ((n : Int) + 1 != (c : Int) - 1) = true := by rw [bne_iff_ne]; omega
    have C := hid (o.out (by rw [d]; decide));rw [d];clear d D hL hM o;go_wp2_with fail;refine zR (C.out W (Below.refl _ _)) fun o7 hb7 => ?_;have hm := zbt hN hb7;clear x0 x1 x2;go_wp2_with fail;go_ret;exact ⟨_, rfl, rfl, hm⟩
end Go.Proofs.YtmcbeajdloaliaaGreatDoor
