import Derived.Test.YtmcbeajdloaliaaGreatDoorUD3
import Derived.Deep.AppendLies
import Derived.Deep.RegionLaw
import Derived.Deep.RegionHeld3
import Derived.Deep.LoopGhost
/- Integer: its exported functions. -/
set_option maxHeartbeats 2000000
set_option maxRecDepth 100000
namespace Go.Proofs.YtmcbeajdloaliaaGreatDoor
open Go.RowKit Go.Lib
def Take9 (s : List UInt8) (m k : Nat) (o : List Nat) : Prop := o.length = k /\ (∀ z ∈ o, z < B9) /\ lval B9 o + dval (s.take m) * B9 ^ k = dval s
theorem Take9.start (s : List UInt8) : Take9 s s.length 0 [] := ⟨rfl, by simp, by simp [lval]⟩
theorem Take9.step {s : List UInt8} {m k x : Nat} {o : List Nat} (N : ∀ c ∈ s, isDig c) (h : Take9 s m k o) (L : m <= s.length) (hx : x = dval ((s.take m).drop (m - 9))) :
 Take9 s (m - 9) (k + 1) (o ++ [x]) := by
 obtain ⟨V, Q, O⟩ := h;have S : ((s.take m).drop (m - 9)).length = min 9 m := by simp; omega
 have Z : ∀ c ∈ (s.take m).drop (m - 9), isDig c := fun c hc => N c (List.mem_of_mem_take (List.mem_of_mem_drop hc));have Y := dlt _ Z;rw [S, <- hx] at Y;have M : x < B9 := by
  refine Nat.lt_of_lt_of_le Y ?_;show 10 ^ (min 9 m) <= 10 ^ 9;exact Nat.pow_le_pow_right (by decide) (Nat.min_le_left _ _)
 have e : s.take m = s.take (m - 9) ++ (s.take m).drop (m - 9) := by
  conv => lhs; rw [<- List.take_append_drop (m - 9) (s.take m)]
  rw [List.take_take, Nat.min_eq_left (by omega)]
 have R : dval (s.take m) = dval (s.take (m - 9)) * B9 + x := by
  rw [e, dad, S, <- hx];rcases Nat.lt_or_ge m 9 with U | U
  ·rw [show m - 9 = 0 by omega]; simp [dval]
  ·rw [Nat.min_eq_left U]; rfl
 refine ⟨by simp [V], fun z X => ?_, ?_⟩
 ·rcases List.mem_append.1 X with X | X
  ·exact Q z X
  ·simp only [List.mem_cons, List.not_mem_nil, or_false] at X
   omega
 ·rw [lsc, V, <- O, R, Nat.pow_succ]
  grind
theorem Take9.done {s : List UInt8} {k : Nat} {o : List Nat} (h : Take9 s 0 k o) : dropZ o = lm B9 (dval s) := by
 obtain ⟨X, Z, Y⟩ := h;rw [dZe B9 tlB _ Z, <- Y];simp [dval]
theorem tIS (n : Int) : BS (trimPrefix (IS n).data.toList [45]) = BS (decDigits n.natAbs) := by rw [Ilt, itm]
theorem pIS (n : Int) : hasPrefix (IS n).data.toList [45] = decide (n < 0) := by rw [Ilt, ihM]
theorem bte (s : ByteArray) (k : Nat) : s.extract 0 k = BS (s.data.toList.take k) := by
 apply bet; rw [extract_data, Blt, List.drop_zero, Nat.sub_zero]
theorem bdp (s : ByteArray) (k : Nat) : s.extract k s.size = BS (s.data.toList.drop k) := by
 apply bet; rw [extract_to_end, Blt]
theorem WRA {w w' : World} {base e sz n : Nat} {v : Value} {cs : List Value} (h : w.ownsRow base e sz v n cs) (V : Below w.heap.size w w') : w'.ownsRow base e sz v n cs := by
 refine ⟨h.1, ?_⟩;rcases h.2 with U | ⟨g, cap, Z, rfl, Y, X, rest⟩
 ·exact .inl U
 ·exact .inr ⟨g, cap, Z, rfl, Y, (V.block g (Array.getElem?_eq_some_iff.1 X).1).trans X, rest⟩
def sC0 : Value -> Nat
 | .string s => s.size
 | _ => 0
def OOp (n : Int) (v : Value) (w : World) : Prop := ∃ vp, v = .agg #[.bool (decide (n < 0)), vp] /\ Rd .u64 w vp (lm B9 n.natAbs)
theorem oa0 (n : Int) (hm : (IS n).size <= 100000) (w : World) :
 Calls Tryz.prog 98 #[.string (IS n)] w (Ret (OOp n) w) := by
 obtain ⟨i0, hi, h3, h4, h5⟩ := info_parts Tryz.info_u64;obtain ⟨neg, K⟩ := zex (decide (n < 0));have O := hid K;have j : (decDigits n.natAbs).length <= 100000 := by
  have := iln n;rw [Ise] at hm;rw [decDigits_length]; split at this <;> omega
 obtain ⟨l, hl⟩ := zex (decDigits n.natAbs);rw [<- hl] at j;have N : ∀ c ∈ l, isDig c := by rw [hl]; exact dDd _
 have Q := hid N;have HL := hid hl;clear K N hl;go_enter Tryz.func98, Tryz.ntmps98;go_wp2_with fail;refine (cMa _ _).mono ?_;rintro e w1 ⟨_, rfl, rfl, rfl⟩;rw [tIS, pIS, <- HL.out, <- O.out];have hw : (BS l).size <= 100000 := by rw [Bse]; exact j
 have hp : Hid ((BS l).size = l.length) := Bse l;go_wp2_with (first | (at_make; refine wpList_make_own _ rfl _ _ 162 rfl (w.heap.size + 1) 193 i0 (.int .u64 0) 1 Tryz.underlying162 hi h3 h4 _ _ _ ((BS l).size / 9 + 1) rfl rfl (by omega) (by rw [h5]; omega) (by unfold maxLen; omega) (by simp) ?_; intro w1 Z q));have s : Below (w.heap.size + 1) (w.alloc (.cells #[.bool false, .slice none 0 0] 164)) w1 := (Below.refl _ _).grown q (by simp) (fun k hk => by cases hk);clear q;go_loopw [3, 5] (fun t3 t5 wr => ∃ (m k : Nat) (S : ByteArray) (o : List Nat), t3 = .string S /\ Hid (S = BS (l.take m)) /\ m <= S.size /\ S.size <= m /\ m <= l.length /\ m + k <= l.length + 1 /\ Hid (Take9 l m k o) /\ wr.ownsRow (w.heap.size + 1) 193 1 t5 k (o.map fun x : Nat => Value.int .u64 (x : Int)) /\ Below (w.heap.size + 1) (w.alloc (.cells #[.bool false, .slice none 0 0] 164)) wr)
  (fun t3 _ _ => sC0 t3)
 case atStart => exact ⟨l.length, 0, _, [], rfl, by unfold Hid; rw [List.take_length], by rw [Bse]; omega, by rw [Bse]; omega, Nat.le_refl _, by omega, Take9.start _, by simpa using Z, s⟩
 case round =>
  clear Z s;obtain ⟨m, k, S, o, rfl, HS, hs, ht, hg, hB, HT, Z, Y⟩ := hrel;have hz : k <= 1000000 := by omega
  have hu : S.size <= 1000000 := by omega
  rcases Nat.eq_zero_or_pos m with h | hC
  ·have hd : ¬ 0 < S.size := by omega
   have h9 : Hid (dropZ o = lm B9 n.natAbs) := by
    have h1 := HT.out;rw [h] at h1;have h2 := h1.done;rw [HL.out, ddD] at h2;exact h2
   have i : o.length = k := HT.out.1;have d : Rd .u64 wr _ o := Rd.of_owns rfl (by rw [i]; exact Z);have h8 := hid d;clear i d h;go_wp2_with fail;refine (tay _ _ _ h8.out).mono ?_;rintro e w3 ⟨v3, rfl, R, rfl⟩;rw [h9.out] at R;obtain ⟨C, D, rfl, hy, hA, hj⟩ := R.open;have g1 : wr.cell? ⟨w.heap.size, 0, none⟩ = some (.bool false) := (Y.cell (p := ⟨w.heap.size, 0, none⟩) (by simp)).trans (by rw [World.cell?_alloc_at _ _ _ _ rfl]; rfl);have g2 : wr.cell? ⟨w.heap.size, 1, none⟩ = some (.slice none 0 0) := (Y.cell (p := ⟨w.heap.size, 1, none⟩) (by simp)).trans (by rw [World.cell?_alloc_at _ _ _ _ rfl]; rfl);have hq : wr.frozen? ⟨w.heap.size, 0, none⟩ = false := (Y.frozen (p := ⟨w.heap.size, 0, none⟩) (by simp)).trans (World.frozen?_alloc_at _ _ _ _ rfl);have hr : wr.frozen? ⟨w.heap.size, 1, none⟩ = false := (Y.frozen (p := ⟨w.heap.size, 1, none⟩) (by simp)).trans (World.frozen?_alloc_at _ _ _ _ rfl);clear hj;have q1 := World.cell?_setCell_same' wr ⟨w.heap.size, 0, none⟩ (Value.bool neg) (by rw [g1]; rfl);have q2 : (wr.setCell ⟨w.heap.size, 0, none⟩ (Value.bool neg)).cell? ⟨w.heap.size, 1, none⟩ = some (.slice none 0 0) := by rw [World.cell?_setCell_other _ _ _ _ (by simp)]; exact g2
   have q3 := World.cell?_setCell_same' (wr.setCell ⟨w.heap.size, 0, none⟩ (Value.bool neg)) ⟨w.heap.size, 1, none⟩ (Value.slice C (lm B9 n.natAbs).length D) (by rw [q2]; rfl);have q4 : ((wr.setCell ⟨w.heap.size, 0, none⟩ (Value.bool neg)).setCell ⟨w.heap.size, 1, none⟩ (Value.slice C (lm B9 n.natAbs).length D)).cell? ⟨w.heap.size, 0, none⟩ = some (.bool neg) := by
    rw [World.cell?_setCell_other _ _ _ _ (by simp)]; exact q1
   have M : Rd .u64 ((wr.setCell ⟨w.heap.size, 0, none⟩ (Value.bool neg)).setCell ⟨w.heap.size, 1, none⟩ (Value.slice C (lm B9 n.natAbs).length D)) (.slice C (lm B9 n.natAbs).length D) (lm B9 n.natAbs) :=
    RdC.set_other (RdC.set_other R g1 (by simp)) q2 (by simp)
   have he : Below w.heap.size w ((wr.setCell ⟨w.heap.size, 0, none⟩ (Value.bool neg)).setCell ⟨w.heap.size, 1, none⟩ (Value.slice C (lm B9 n.natAbs).length D)) :=
    ((((Below.refl _ w).alloc (Nat.le_refl _) _).trans (Y.mono (by omega))).setCell (Nat.le_refl _) _).setCell (Nat.le_refl _) _
   have B := hid M;clear M R;go_wp2_with fail;refine bodyPost_ret (v := .agg #[.bool neg, .slice C (lm B9 n.natAbs).length D]) (by simp [results, Tryz.results98, go_sem, q3, q4]) rfl ?_;exact ⟨_, rfl, ⟨_, by rw [O.out], B.out⟩, he⟩
  ·have hd : 0 < S.size := by omega
   obtain ⟨a, ha⟩ := zex (m - 9);have hv : a <= m := by omega
   have g : Hid (max ((S.size : Int) - 9) 0 = (a : Int)) := by unfold Hid; omega
   have HA := hid ha;have HP : Hid (S.extract a S.size = BS ((l.take m).drop (m - 9))) := by
    unfold Hid; rw [bdp, HS.out, Blt, HA.out]
   have E : ∀ c ∈ (l.take m).drop (m - 9), isDig c := fun c hc => Q.out c (List.mem_of_mem_take (List.mem_of_mem_drop hc));have f : ((l.take m).drop (m - 9)).length = min 9 m := by simp; omega
   have hh : (l.take m).drop (m - 9) ≠ [] := List.ne_nil_of_length_pos (by omega);obtain ⟨x, hx⟩ := zex (dval ((l.take m).drop (m - 9)));have hD : x < 1000000000 := by
    have := dlt _ E;rw [f, <- hx] at this;exact Nat.lt_of_lt_of_le this (show 10 ^ min 9 m <= 10 ^ 9 from Nat.pow_le_pow_right (by decide) (Nat.min_le_left _ _))
   have HX : Hid (Take9 l (m - 9) (k + 1) (o ++ [x])) := HT.out.step Q.out hg hx;have h7 := hid (show ((l.take m).drop (m - 9)).length <= 9 by omega);have h6 := hid E;have hb := hid hx;obtain ⟨xz, h0⟩ := zex ((x : Int) : Int);have ho : 0 <= xz /\ xz < 1000000000 := by omega
   have A := hid h0;clear ha E hx f h0;go_upto_region 5 with fail;rw [g.out];have f1 : (0 : Int) <= (a : Int) := by omega
   have f2 : (a : Int) <= (S.size : Int) := by omega
   have f3 : a <= S.size := by omega
   go_wp2_with fail;rw [HP.out];refine (pUa _ h6.out hh h7.out _).mono ?_;rintro e w2 ⟨_, rfl, rfl, I⟩;rw [<- hb.out, <- A.out];have H := WRA Z I;have J : Below (w.heap.size + 1) (w.alloc (.cells #[.bool false, .slice none 0 0] 164)) w2 := Y.trans (I.mono (by have := Y.size; simp at this; omega));have b : w.heap.size + 1 <= w2.heap.size := by have := J.size; simp at this; omega
   clear Z Y I;go_upto_region 6 with fail;have U : w2.drew.ownsRow (w.heap.size + 1) 193 1 _ k (o.map fun x : Nat => Value.int .u64 (x : Int)) := H;have X := hid U;clear U
   go_region_law ((refine step_append_lies _ (by rfl) (.tmp 33) (.tmp 35) 162 (by rfl) (w.heap.size + 1) 193 i0 (.int .u64 0) 1 8 Tryz.underlying162 hi h3 h4 h5 rfl (by decide) _ k (o.map fun x : Nat => Value.int .u64 (x : Int)) (by simp [Act.eval]) (X.out.alloc _) ⟨w2.heap.size, 0, none⟩ 1 1 [.int .u64 xz] (by simp [Act.eval]) rfl (cou w2.drew _ _) (ocu _) (by omega) (by unfold maxLen; omega) (by omega) (by simp; omega) _ rfl ?_; intro g5 z w5 V L t hn))
   have G : w5.ownsRow (w.heap.size + 1) 193 1 (.slice (some ⟨g5, 0, none⟩) (k + 1) z) (k + 1) ((o ++ [x]).map fun x : Nat => Value.int .u64 (x : Int)) := by
    rw [<- msu, <- A.out]; exact V
   have HE : Hid (S.extract 0 a = BS (l.take (m - 9))) := by
    unfold Hid;rw [bte, HS.out, Blt, List.take_take, HA.out, Nat.min_eq_left (by omega)]
   have y : m - 9 <= (S.extract 0 a).size /\ (S.extract 0 a).size <= m - 9 := by
    rw [HE.out, Bse, List.length_take]; omega
   have r : Below (w.heap.size + 1) (w.alloc (.cells #[.bool false, .slice none 0 0] 164)) w5 :=
    bad (w := w.alloc (.cells #[.bool false, .slice none 0 0] 164)) J.drew (by simp; exact b) X.out L (by simp)
   have hf : (S.extract 0 a).size < S.size := by omega
   clear V L t;go_wp2_with fail;go_roundw
   case rel =>
    (repeat apply Exists.intro)
    exact ⟨⟨m - 9, k + 1, S.extract 0 a, _, rfl, HE, y.1, y.2, by omega, by omega, HX, G, r⟩, rfl⟩
   case measure => exact hf
theorem btL (s : ByteArray) : s.toList = s.data.toList := ByteArray.toList_eq s
theorem ob0 (n : Int) (Z : -9223372036854775808 <= n) (Y : n <= 9223372036854775807) (w : World) (V : Good w) :
 Calls Tryz.prog 97 #[.int .i64 n] w (Ret (fun v _ => v = .string (IS n)) w) := by
 go_enter Tryz.func97, Tryz.ntmps97;go_wp2_with fail;refine (iay n Z Y w V).mono ?_;rintro e w' ⟨_, rfl, rfl, X⟩;go_wp2_with fail;go_ret;exact ⟨_, rfl, rfl, X⟩
theorem qys (n Y : Int) (V : ((IS n).size : Int) <= Y) (U : Y <= 18) (w : World) :
 Calls Tryz.prog 96 #[.string (IS n), .int .i64 Y] w (Ret (fun v _ => v = .tuple #[.int .i64 n, .bool true]) w) := by
 have Z : (IS n).size <= 18 := by omega
 go_enter Tryz.func96, Tryz.ntmps96;go_wp2_with fail;refine (aay n Z w).mono ?_;rintro e w' ⟨_, rfl, rfl, X⟩;go_wp2_with fail;go_quiet (fail);go_wp2_with fail;go_ret2;exact ⟨_, rfl, rfl, X.trans ((bdN _ _).mono X.size)⟩
theorem qno (n Z : Int) (Y : Z < ((IS n).size : Int)) (w : World) :
 Calls Tryz.prog 96 #[.string (IS n), .int .i64 Z] w (Ret (fun v _ => v = .tuple #[.int .i64 0, .bool false]) w) := by
 go_enter Tryz.func96, Tryz.ntmps96;go_wp2_with fail;go_ret2;exact ⟨_, rfl, rfl, Below.refl _ _⟩
theorem qay (n Z : Int) (X : Z <= 18) (w : World) :
 Calls Tryz.prog 96 #[.string (IS n), .int .i64 Z] w (Ret (fun v _ => ∃ x one, v = .tuple #[.int .i64 x, .bool one] /\ (one = true -> x = n /\ ((IS n).size : Int) <= Z)) w) := by
 rcases Int.lt_or_le Z ((IS n).size : Int) with h | h
 ·refine (qno n Z h w).mono ?_
  rintro e w' ⟨_, rfl, rfl, Y⟩;exact ⟨_, rfl, ⟨_, _, rfl, fun h => by cases h⟩, Y⟩
 ·refine (qys n Z h X w).mono ?_
  rintro e w' ⟨_, rfl, rfl, Y⟩;exact ⟨_, rfl, ⟨_, _, rfl, fun _ => ⟨rfl, h⟩⟩, Y⟩
theorem Ie4 (n : Int) : ((IS n).toList == [48]) = decide (n = 0) := by rw [btL, Ilt, ii0]
theorem Ia0 (n : Int) : ((IS n).toList == [49]) = decide (n = 1) := by rw [btL, Ilt, ie4]
theorem In4 (n : Int) : ((IS n).toList != [49]) = !decide (n = 1) := by rw [<- Ia0]; rfl
theorem sb0 (n : Int) (w : World) :
 Calls Tryz.prog 92 #[.string (IS n)] w (Same (fun v => v = .int .i64 n.sign) w) := by
 have U := Ie4 n;have Z := pIS n;rcases Int.lt_trichotomy n 0 with h | h | h
 ·have Y : n.sign = -1 := Int.sign_eq_neg_one_of_neg h
  rw [decide_eq_false (by omega)] at U;rw [decide_eq_true h] at Z;have X := hid Z;have V := hid Y;clear Z Y;go_enter Tryz.func92, Tryz.ntmps92;go_wp2_with fail;refine (hMa _ _).mono ?_;rintro e S ⟨_, rfl, rfl, rfl⟩;rw [X.out];go_wp2_with fail;go_ret;exact ⟨_, rfl, congrArg (Value.int .i64) V.out.symm, rfl⟩
 ·subst h
  rw [decide_eq_true rfl] at U;clear Z;go_enter Tryz.func92, Tryz.ntmps92;go_wp2_with fail;go_ret;exact ⟨_, rfl, rfl, rfl⟩
 ·have Y : n.sign = 1 := Int.sign_eq_one_of_pos h
  rw [decide_eq_false (by omega)] at U;rw [decide_eq_false (by omega)] at Z;have X := hid Z;have V := hid Y;clear Z Y;go_enter Tryz.func92, Tryz.ntmps92;go_wp2_with fail;refine (hMa _ _).mono ?_;rintro e S ⟨_, rfl, rfl, rfl⟩;rw [X.out];go_wp2_with fail;go_ret;exact ⟨_, rfl, congrArg (Value.int .i64) V.out.symm, rfl⟩
theorem na0 (n : Int) (V : (IS n).size <= 100000) (w : World) :
 Calls Tryz.prog 93 #[.string (IS n)] w (Same (fun v => v = .string (IS (-n))) w) := by
 rcases Int.lt_trichotomy n 0 with h | h | h
 ·have Z : Hid (n.sign = -1) := Int.sign_eq_neg_one_of_neg h
  have U : 1 <= (IS n).size := by rw [Ise]; exact ilp n
  have Y : Hid ((IS n).extract 1 (IS n).size = IS (-n)) := by
   unfold Hid;apply bet; rw [extract_to_end, Ilt, Ilt, idn h]
  go_enter Tryz.func93, Tryz.ntmps93;go_wp2_with fail;refine (sb0 _ _).mono ?_;rintro e X ⟨_, rfl, rfl, rfl⟩;rw [Z.out];go_wp2_with fail;go_ret;exact ⟨_, rfl, congrArg Value.string Y.out, rfl⟩
 ·subst h
  have Z : Hid ((0 : Int).sign = 0) := rfl;go_enter Tryz.func93, Tryz.ntmps93;go_wp2_with fail;refine (sb0 _ _).mono ?_;rintro e X ⟨_, rfl, rfl, rfl⟩;rw [Z.out];go_wp2_with fail;go_ret;exact ⟨_, rfl, rfl, rfl⟩
 ·have Z : Hid (n.sign = 1) := Int.sign_eq_one_of_pos h
  have Y : Hid ((⟨#[45]⟩ : ByteArray) ++ IS n = IS (-n)) := by
   unfold Hid;apply bet; rw [ba0, Ilt, Ilt, <- icn h]; rfl
  go_enter Tryz.func93, Tryz.ntmps93;go_wp2_with fail;refine (sb0 _ _).mono ?_;rintro e X ⟨_, rfl, rfl, rfl⟩;rw [Z.out];go_wp2_with fail;go_ret;exact ⟨_, rfl, congrArg Value.string Y.out, rfl⟩
structure Box2 (W : World) (X : Nat) (v0 v1 : Value) : Prop where
 c0 : W.cell? ⟨X, 0, none⟩ = some v0
 c1 : W.cell? ⟨X, 1, none⟩ = some v1
 f0 : W.frozen? ⟨X, 0, none⟩ = false
 f1 : W.frozen? ⟨X, 1, none⟩ = false
theorem Box2.below {W W' : World} {X : Nat} {v0 v1 : Value} (h : Box2 W X v0 v1) (Y : Below W.heap.size W W') : Box2 W' X v0 v1 := by
 have Z : X < W.heap.size := World.block_lt_of_cell? W _ h.c0;exact ⟨(zcq Y Z h.c0 :), (zcq Y Z h.c1 :), (Y.frozen (p := ⟨X, 0, none⟩) Z).trans h.f0, (Y.frozen (p := ⟨X, 1, none⟩) Z).trans h.f1⟩
theorem Box2.lt {W : World} {X : Nat} {v0 v1 : Value} (h : Box2 W X v0 v1) : X < W.heap.size := World.block_lt_of_cell? W _ h.c0
theorem b2n (w : World) (T X : Nat) (v0 v1 : Value) (Z : w.heap.size = X) : Box2 (w.alloc (.cells #[v0, v1] T)) X v0 v1 := by
 subst Z;exact ⟨by rw [World.cell?_alloc_at _ _ _ _ rfl]; rfl, by rw [World.cell?_alloc_at _ _ _ _ rfl]; rfl, World.frozen?_alloc_at _ _ _ _ rfl, World.frozen?_alloc_at _ _ _ _ rfl⟩
theorem Box2.put {W : World} {X : Nat} {v0 v1 : Value} (h : Box2 W X v0 v1) (u0 u1 : Value) : Box2 ((W.setCell ⟨X, 0, none⟩ u0).setCell ⟨X, 1, none⟩ u1) X u0 u1 := by
 refine ⟨?_, ?_, ?_, ?_⟩
 ·rw [World.cell?_setCell_other _ _ _ _ (by simp)]
  exact World.cell?_setCell_same' _ _ _ (by rw [h.c0]; rfl)
 ·exact World.cell?_setCell_same' _ _ _ (by rw [World.cell?_setCell_other _ _ _ _ (by simp), h.c1]; rfl)
 ·rw [World.frozen?_setCell, World.frozen?_setCell]; exact h.f0
 ·rw [World.frozen?_setCell, World.frozen?_setCell]; exact h.f1
theorem Box2.other {W : World} {X Y : Nat} {v0 v1 : Value} (h : Box2 W X v0 v1) (Z : Y ≠ X) (i : Nat) (u : Value) : Box2 (W.setCell ⟨Y, i, none⟩ u) X v0 v1 := by
 refine ⟨?_, ?_, ?_, ?_⟩
 ·rw [World.cell?_setCell_other _ _ _ _ (by simp only [ne_eq, Addr.mk.injEq, not_and]; intro h; exact absurd h Z)]; exact h.c0
 ·rw [World.cell?_setCell_other _ _ _ _ (by simp only [ne_eq, Addr.mk.injEq, not_and]; intro h; exact absurd h Z)]; exact h.c1
 ·rw [World.frozen?_setCell]; exact h.f0
 ·rw [World.frozen?_setCell]; exact h.f1
theorem Rd.box {k : IntKind} {W : World} {X : Nat} {m : Bool} {p : Option Addr} {n c : Nat} {v : Value} {l : List Nat} (h : Rd k W v l) (hx : Box2 W X (.bool m) (.slice p n c)) (u0 u1 : Value) :
 Rd k ((W.setCell ⟨X, 0, none⟩ u0).setCell ⟨X, 1, none⟩ u1) v l := by
 refine RdC.set_other (RdC.set_other h hx.c0 (by simp)) (c := .slice p n c) ?_ (by simp);rw [World.cell?_setCell_other _ _ _ _ (by simp)]; exact hx.c1
theorem slm {n : Int} (h : (IS n).size <= 18) : -1000000000000000000 < n /\ n < 1000000000000000000 := by
 rw [Ise] at h;have := nAl (k := 18) (by decide) h;omega
theorem lg0 {n : Int} {k : Nat} (Y : 0 < k) (h : (IS n).size <= k) : (lm B9 n.natAbs).length <= k := by
 rw [Ise] at h;have Z := nAl Y h;refine la0 B9 _ _ tlB (Nat.lt_of_lt_of_le Z ?_);exact Nat.pow_le_pow_left (by decide) _
theorem l9l {n : Int} (h : (IS n).size <= 100000) : (lm B9 n.natAbs).length <= 100000 := lg0 (by decide) h
theorem lal {a b n : Nat} (Z : (lm B9 a).length <= n) (Y : (lm B9 b).length <= n) : (lm B9 (a + b)).length <= n + 1 := by
 refine la0 B9 _ _ tlB ?_;have X := Nat.lt_of_lt_of_le (lll B9 a tlB) (Nat.pow_le_pow_right (show 0 < B9 by decide) Z);have V := Nat.lt_of_lt_of_le (lll B9 b tlB) (Nat.pow_le_pow_right (show 0 < B9 by decide) Y);have U : 2 * B9 ^ n <= B9 * B9 ^ n := Nat.mul_le_mul_right _ (by decide);rw [Nat.pow_succ, Nat.mul_comm];omega
theorem ac0 (a b : Int) (hq : (IS a).size <= 100000) (hr : (IS b).size <= 100000) (w : World) (hg : Good w) :
 Calls Tryz.prog 56 #[.string (IS a), .string (IS b)] w (Ret (fun v _ => v = .string (IS (a + b))) w) := by
 have hk := l9l hq;have hm := l9l hr;go_enter Tryz.func56, Tryz.ntmps56;go_wp2_with fail;refine (qay a 18 (by omega) _).mono ?_;rintro e w1 ⟨_, rfl, ⟨x, one, rfl, hx⟩, hi⟩;go_upto_if 16 with fail;go_cut [] (fun wx => Below w.heap.size w wx)
 case first =>
  cases one
  ·go_wp2_with fail
   go_meet;exact hi
  ·obtain ⟨rfl, I⟩ := hx rfl
   have L := slm (n := x) (by omega);go_wp2_with fail;refine (qay b 18 (by omega) _).mono ?_;rintro e w2 ⟨_, rfl, ⟨y, hH, rfl, hy⟩, hA⟩;have N := zbt hi hA;cases hH
   ·go_wp2_with fail
    go_meet;exact N
   ·obtain ⟨rfl, H⟩ := hy rfl
    have K := slm (n := y) (by omega);go_wp2_with fail;refine (ob0 (x + y) (by omega) (by omega) _ (hg.below N)).mono ?_;rintro e w3 ⟨_, rfl, rfl, z⟩;go_wp2_with fail;go_ret;exact ⟨_, rfl, rfl, (zbt N z)⟩
 case rest =>
  have N := hcut;clear hcut;go_wp2_with fail;refine (oa0 a hq _).mono ?_;rintro e w4 ⟨_, rfl, ⟨va, rfl, h3⟩, z⟩;go_wp2_with fail;refine (oa0 b hr _).mono ?_;rintro e Y ⟨_, rfl, ⟨vb, rfl, h4⟩, o⟩;obtain ⟨pa, A, rfl, hN, hQ, ho⟩ := h3.open;obtain ⟨B, C, rfl, hO, hR, hp⟩ := h4.open;have R := hid (RdC.below h3 o);have Q := hid h4;clear h3 h4 ho hp;go_upto_region 7 with fail;obtain ⟨V, s⟩ := zex (decide (a < 0));obtain ⟨D, r⟩ := zex (decide (b < 0));rw [<- s, <- r];have h5 : w.heap.size <= Y.heap.size := by have := N.size; have := z.size; have := o.size; omega
  have hh : Below w.heap.size w Y := N.trans (((zbt z o)).mono N.size);generalize G : Y.alloc (.cells #[.bool V, .slice pa (lm B9 a.natAbs).length A] 164) = W1;have x1 : Box2 W1 Y.heap.size (.bool V) (.slice pa (lm B9 a.natAbs).length A) := by rw [<- G]; exact b2n _ _ _ _ _ rfl
  have hs : W1.heap.size = Y.heap.size + 1 := by rw [<- G]; simp
  have hf : Below w.heap.size w W1 := by rw [<- G]; exact hh.alloc h5 _
  have ht : Rd .u64 W1 (.slice pa (lm B9 a.natAbs).length A) (lm B9 a.natAbs) := by rw [<- G]; exact R.out.alloc _
  have hu : Rd .u64 W1 (.slice B (lm B9 b.natAbs).length C) (lm B9 b.natAbs) := by rw [<- G]; exact Q.out.alloc _
  generalize hW : W1.alloc (.cells #[.bool D, .slice B (lm B9 b.natAbs).length C] 164) = W;have y1 : Box2 W (Y.heap.size + 1) (.bool D) (.slice B (lm B9 b.natAbs).length C) := by rw [<- hW]; exact b2n _ _ _ _ _ hs
  have O : Below W1.heap.size W1 W := by rw [<- hW]; exact zal _ _
  have x2 := x1.below O;have t : Below w.heap.size w W := hf.trans (O.mono (by omega));have rA : Rd .u64 W (.slice pa (lm B9 a.natAbs).length A) (lm B9 a.natAbs) := RdC.below ht O;have rB : Rd .u64 W (.slice B (lm B9 b.natAbs).length C) (lm B9 b.natAbs) := RdC.below hu O;clear hW G x1 hf ht hu O hs hh R Q N z o;obtain ⟨c0, c1, ha, hb⟩ := x2;obtain ⟨d0, d1, hc, he⟩ := y1;have hC : Good W := hg.below t;have hz : Y.heap.size + 1 < W.heap.size := World.block_lt_of_cell? W _ d0;have h := hid s;have g := hid r;clear s r;by_cases hab : V = D
  ·subst hab
   have R := hid rA;have Q := hid rB;have t1 : (V == V) = true := by simp
   have HV : Hid ((if V then -((a.natAbs + b.natAbs : Nat) : Int) else ((a.natAbs + b.natAbs : Nat) : Int)) = a + b) := by
    unfold Hid;have I := h.out;have H := g.out;cases V
    ·have := of_decide_eq_false I.symm
     have := of_decide_eq_false H.symm;simp; omega
    ·have := of_decide_eq_true I.symm
     have := of_decide_eq_true H.symm;simp; omega
   have hl : (lm B9 (a.natAbs + b.natAbs)).length <= 1000000 := by
    have := lal hk hm;omega
   have j : Hid (Rd .u64 W.drew (.slice pa (lm B9 a.natAbs).length A) (lm B9 a.natAbs)) := R.out;have i : Hid (Rd .u64 W.drew (.slice B (lm B9 b.natAbs).length C) (lm B9 b.natAbs)) := Q.out;clear rA rB;go_wp2_with fail;go_region_held3 (fun w' => w'.cell? ⟨Y.heap.size, 0, none⟩ = some (.bool V) /\ w'.cell? ⟨Y.heap.size, 1, none⟩ = some (.slice pa (lm B9 a.natAbs).length A) /\ w'.cell? ⟨Y.heap.size + 1, 1, none⟩ = some (.slice B (lm B9 b.natAbs).length C))
    (first | exact ⟨c0, c1, d1⟩ | exact ⟨e0, e1, f1⟩ | exact ⟨g0, g1, I⟩)
    (first
    | (go_at_call 99; refine (pc0 _ _ _ a.natAbs b.natAbs j.out i.out (by omega) (by omega)).mono ?_; rintro e w6 ⟨v6, rfl, q, X⟩
       have e0 := zcq X (show Y.heap.size < W.heap.size by omega) c0;have e1 := zcq X (show Y.heap.size < W.heap.size by omega) c1;have f1 := zcq X (show Y.heap.size + 1 < W.heap.size by omega) d1;have l := X.size;obtain ⟨p6, c6, rfl, hB, hG, c⟩ := q.open;clear c)
    | (go_at_call 100; refine (cay _ _ V (a.natAbs + b.natAbs) q hl ((hC.drewN 1).below X)).mono ?_; rintro e w7 ⟨_, rfl, rfl, U⟩; rw [HV.out]
       have g0 := zcq U (by have h9 : W.drew.heap.size = W.heap.size := rfl; show Y.heap.size < _; omega) e0;have g1 := zcq U (by have h9 : W.drew.heap.size = W.heap.size := rfl; show Y.heap.size < _; omega) e1;have I := (zcq U (by have h9 : W.drew.heap.size = W.heap.size := rfl; show Y.heap.size + 1 < _; omega) f1 :)))
   all_goals
    go_wp2_with fail;go_ret;exact ⟨_, rfl, rfl, t.trans ((((bdN W 1).trans X).trans (U.mono X.size)).mono t.size)⟩
  ·have t1 : (V == D) = false := by simpa using hab
   have R := hid rA;have Q := hid rB;have HC : ∃ cz, Hid (cz = cmpN a.natAbs b.natAbs) := ⟨_, rfl⟩;obtain ⟨cz, HC⟩ := HC;have BX := hid (Box2.mk c0 c1 ha hb);have BY := hid (Box2.mk d0 d1 hc he);clear rA rB;go_wp2_with fail;refine (oay _ _ _ a.natAbs b.natAbs R.out Q.out).mono ?_;rintro e w6 ⟨_, rfl, rfl, p, rfl⟩;rw [<- HC.out];go_upto_if 50 with fail;go_cut [] (fun wx => ∃ (m m2 : Bool) (p1 p2 : Option Addr) (L K c1 c2 : Nat), Box2 wx Y.heap.size (.bool m) (.slice p1 (lm B9 L).length c1) /\ Box2 wx (Y.heap.size + 1) (.bool m2) (.slice p2 (lm B9 K).length c2) /\
    Rd .u64 wx (.slice p1 (lm B9 L).length c1) (lm B9 L) /\ Rd .u64 wx (.slice p2 (lm B9 K).length c2) (lm B9 K) /\ K <= L /\ (lm B9 L).length <= 100000 /\ Hid ((if m then -((L - K : Nat) : Int) else ((L - K : Nat) : Int)) = a + b) /\ Below w.heap.size w wx /\ Y.heap.size + 1 < wx.heap.size)
   case first =>
    have k : Below w.heap.size w (W.drewN p) := t.trans ((bdN W p).mono t.size);have S : Hid (Box2 (W.drewN p) Y.heap.size (.bool V) (.slice pa (lm B9 a.natAbs).length A)) := BX.out.below (bdN W p);have J : Hid (Box2 (W.drewN p) (Y.heap.size + 1) (.bool D) (.slice B (lm B9 b.natAbs).length C)) := BY.out.below (bdN W p);have h6 := hid (RdC.drewN R.out p);have h7 := hid (RdC.drewN Q.out p);have l : Y.heap.size + 1 < (W.drewN p).heap.size := hz;have e0 := S.out.c0;have e1 := S.out.c1;have hJ := S.out.f0;have hK := S.out.f1;have f0 := J.out.c0;have f1 := J.out.c1;have hL := J.out.f0;have hM := J.out.f1;generalize W.drewN p = Z at *;have E : D = !V := by cases V <;> cases D <;> simp at hab <;> rfl
    rcases Nat.lt_or_ge a.natAbs b.natAbs with hn | hE
    ·have d : Hid (cz = -1) := by unfold Hid; rw [HC.out]; exact cNl hn
     have hd : decide (cz < 0) = true := by rw [d.out]; rfl
     have M : Hid ((if D then -((b.natAbs - a.natAbs : Nat) : Int) else ((b.natAbs - a.natAbs : Nat) : Int)) = a + b) := by
      unfold Hid;have I := h.out;have H := g.out;rw [E] at H ⊢;cases V
      ·have := of_decide_eq_false I.symm
       have := of_decide_eq_true H.symm;simp; omega
      ·have := of_decide_eq_true I.symm
       have := of_decide_eq_false H.symm;simp; omega
     have hw := hid E;clear E;rw [hd];go_wp2_with fail;go_meet;have q1 := S.out.put (.bool D) (.slice B (lm B9 b.natAbs).length C);have q2 : Box2 ((Z.setCell ⟨Y.heap.size, 0, none⟩ (.bool D)).setCell ⟨Y.heap.size, 1, none⟩ (.slice B (lm B9 b.natAbs).length C)) (Y.heap.size + 1) (.bool D) (.slice B (lm B9 b.natAbs).length C) :=
      (J.out.other (by omega) _ _).other (by omega) _ _
     have q3 := q2.put (.bool V) (.slice pa (lm B9 a.natAbs).length A);have q4 := (q1.other (show Y.heap.size + 1 ≠ Y.heap.size by omega) 0 (.bool V)).other (show Y.heap.size + 1 ≠ Y.heap.size by omega) 1 (.slice pa (lm B9 a.natAbs).length A);exact ⟨D, V, B, pa, b.natAbs, a.natAbs, C, A, q4, q3, Rd.box (Rd.box h7.out S.out _ _) q2 _ _, Rd.box (Rd.box h6.out S.out _ _) q2 _ _, Nat.le_of_lt hn, hm, M,
      (((k.setCell h5 _).setCell h5 _).setCell (by show w.heap.size <= Y.heap.size + 1; omega) _).setCell (by show w.heap.size <= Y.heap.size + 1; omega) _, by simp [World.setCell]; exact l⟩
    ·have d : Hid (0 <= cz) := by unfold Hid; rw [HC.out]; unfold cmpN; rw [if_neg (by omega)]; split <;> omega
     have hd : decide (cz < 0) = false := by have := d.out; simp; omega
     have M : Hid ((if V then -((a.natAbs - b.natAbs : Nat) : Int) else ((a.natAbs - b.natAbs : Nat) : Int)) = a + b) := by
      unfold Hid;have I := h.out;have H := g.out;rw [E] at H;cases V
      ·have := of_decide_eq_false I.symm
       have := of_decide_eq_true H.symm;simp; omega
      ·have := of_decide_eq_true I.symm
       have := of_decide_eq_false H.symm;simp; omega
     have hw := hid E;clear E;rw [hd];go_wp2_with fail;go_meet;exact ⟨V, D, pa, B, a.natAbs, b.natAbs, A, C, S.out, J.out, h6.out, h7.out, hE, hk, M, k, l⟩
   case rest =>
    obtain ⟨m, m2, p1, p2, L, K, q1, q2, bx, h8, r1, r2, hj, hP, M, f, hS⟩ := hcut;clear c0 c1 ha hb d0 d1 hc he BX BY R Q;have g0 := bx.c0;have g1 := bx.c1;have g2 := h8.c1;have hD : Good wc := hg.below f;have hF : (lm B9 (L - K)).length <= 1000000 := by
     refine Nat.le_trans (la0 B9 _ (lm B9 L).length tlB (Nat.lt_of_le_of_lt (Nat.sub_le _ _) (lll B9 L tlB))) (by omega)
    have j : Hid (Rd .u64 wc.drew (.slice p1 (lm B9 L).length q1) (lm B9 L)) := r1;have i : Hid (Rd .u64 wc.drew (.slice p2 (lm B9 K).length q2) (lm B9 K)) := r2;have hv := hid hj;clear r1 r2 bx h8 hj;go_wp2_with fail;go_region_held3 (fun w' => w'.cell? ⟨Y.heap.size, 0, none⟩ = some (.bool m) /\ w'.cell? ⟨Y.heap.size, 1, none⟩ = some (.slice p1 (lm B9 L).length q1) /\ w'.cell? ⟨Y.heap.size + 1, 1, none⟩ = some (.slice p2 (lm B9 K).length q2))
     (first | exact ⟨g0, g1, g2⟩ | exact ⟨e0, e1, f1⟩ | exact ⟨h0, I, H⟩)
     (first
     | (go_at_call 102; refine (mb0 _ _ _ L K j.out i.out hv.out (by omega)).mono ?_; rintro e w6 ⟨v6, rfl, q, X⟩
        have e0 := zcq X (show Y.heap.size < wc.heap.size by omega) g0;have e1 := zcq X (show Y.heap.size < wc.heap.size by omega) g1;have f1 := zcq X (show Y.heap.size + 1 < wc.heap.size by omega) g2;have l := X.size;obtain ⟨p6, c6, rfl, hB, hG, c⟩ := q.open;clear c)
     | (go_at_call 100; refine (cay _ _ m (L - K) q hF ((hD.drewN 1).below X)).mono ?_; rintro e w7 ⟨_, rfl, rfl, U⟩; rw [M.out]
        have h0 := zcq U (by have h9 : wc.drew.heap.size = wc.heap.size := rfl; show Y.heap.size < _; omega) e0;have I := zcq U (by have h9 : wc.drew.heap.size = wc.heap.size := rfl; show Y.heap.size < _; omega) e1;have H := (zcq U (by have h9 : wc.drew.heap.size = wc.heap.size := rfl; show Y.heap.size + 1 < _; omega) f1 :)))
    all_goals
     go_wp2_with fail;go_ret;exact ⟨_, rfl, rfl, f.trans ((((bdN wc 1).trans X).trans (U.mono X.size)).mono f.size)⟩
theorem sl9 {n : Int} (h : (IS n).size <= 9) : -1000000000 < n /\ n < 1000000000 := by
 rw [Ise] at h;have := nAl (k := 9) (by decide) h;omega
theorem msl {x y : Int} (hx : -1000000000 < x /\ x < 1000000000) (hy : -1000000000 < y /\ y < 1000000000) : -1000000000000000000 <= x * y /\ x * y <= 1000000000000000000 := by
 have Z : x.natAbs * y.natAbs <= 1000000000 * 1000000000 := Nat.mul_le_mul (by omega) (by omega);rw [<- Int.natAbs_mul] at Z;omega
theorem lml {a b n m : Nat} (X : (lm B9 a).length <= n) (V : (lm B9 b).length <= m) : (lm B9 (a * b)).length <= n + m := by
 refine la0 B9 _ _ tlB ?_;have Z := Nat.lt_of_lt_of_le (lll B9 a tlB) (Nat.pow_le_pow_right (show 0 < B9 by decide) X);have Y := Nat.lt_of_lt_of_le (lll B9 b tlB) (Nat.pow_le_pow_right (show 0 < B9 by decide) V);rw [Nat.pow_add];exact Nat.mul_lt_mul_of_lt_of_le Z (Nat.le_of_lt Y) (by have := Nat.pow_pos (n := m) (show 0 < B9 by decide); omega)
theorem sml {a b : Int} {ma mb : Bool} (Z : ma = decide (a < 0)) (Y : mb = decide (b < 0)) :
 (if (ma != mb) then -((a.natAbs * b.natAbs : Nat) : Int) else ((a.natAbs * b.natAbs : Nat) : Int)) = a * b := by
 have e : ((a.natAbs * b.natAbs : Nat) : Int) = (a.natAbs : Int) * (b.natAbs : Int) := Int.natCast_mul _ _;rw [e];cases ma <;> cases mb
 ·have := of_decide_eq_false Z.symm
  have := of_decide_eq_false Y.symm;rw [show (a.natAbs : Int) = a by omega, show (b.natAbs : Int) = b by omega]; rfl
 ·have := of_decide_eq_false Z.symm
  have := of_decide_eq_true Y.symm;rw [show (a.natAbs : Int) = a by omega, show (b.natAbs : Int) = -b by omega]; simp [Int.mul_neg]
 ·have := of_decide_eq_true Z.symm
  have := of_decide_eq_false Y.symm;rw [show (a.natAbs : Int) = -a by omega, show (b.natAbs : Int) = b by omega]; simp [Int.neg_mul]
 ·have := of_decide_eq_true Z.symm
  have := of_decide_eq_true Y.symm;rw [show (a.natAbs : Int) = -a by omega, show (b.natAbs : Int) = -b by omega]; simp [Int.mul_neg, Int.neg_mul]
theorem ma0 (a b : Int) (s : (IS a).size <= 100000) (r : (IS b).size <= 100000) (w : World) (hg : Good w) :
 Calls Tryz.prog 57 #[.string (IS a), .string (IS b)] w (Ret (fun v _ => v = .string (IS (a * b))) w) := by
 have h5 := l9l s;have h6 := l9l r;go_enter Tryz.func57, Tryz.ntmps57;go_wp2_with fail;refine (qay a 9 (by omega) _).mono ?_;rintro e w1 ⟨_, rfl, ⟨x, one, rfl, hx⟩, B⟩;go_upto_if 16 with fail;go_cut [] (fun wx => Below w.heap.size w wx)
 case first =>
  cases one
  ·go_wp2_with fail
   go_meet;exact B
  ·obtain ⟨rfl, h1⟩ := hx rfl
   have k1 := sl9 (n := x) (by omega);go_wp2_with fail;refine (qay b 9 (by omega) _).mono ?_;rintro e w2 ⟨_, rfl, ⟨y, ha, rfl, hy⟩, h3⟩;have X := zbt B h3;cases ha
   ·go_wp2_with fail
    go_meet;exact X
   ·obtain ⟨rfl, h2⟩ := hy rfl
    have k2 := sl9 (n := y) (by omega);have k3 := msl k1 k2;go_wp2_with fail;refine (ob0 (x * y) (by omega) (by omega) _ (hg.below X)).mono ?_;rintro e w3 ⟨_, rfl, rfl, S⟩;go_wp2_with fail;go_ret;exact ⟨_, rfl, rfl, (zbt X S)⟩
 case rest =>
  have X := hcut;clear hcut;go_wp2_with fail;refine (oa0 a s _).mono ?_;rintro e w4 ⟨_, rfl, ⟨va, rfl, L⟩, S⟩;go_wp2_with fail;refine (oa0 b r _).mono ?_;rintro e Z ⟨_, rfl, ⟨vb, rfl, K⟩, N⟩;obtain ⟨pa, J, rfl, hd, hh, z⟩ := L.open;obtain ⟨H, I, rfl, he, hi, t⟩ := K.open;have G := hid (RdC.below L N);have E := hid K;clear L K z t;go_upto_region 7 with fail;obtain ⟨l, Q⟩ := zex (decide (a < 0));obtain ⟨k, O⟩ := zex (decide (b < 0));rw [<- Q, <- O];have h8 : w.heap.size <= Z.heap.size := by have := X.size; have := S.size; have := N.size; omega
  have C : Below w.heap.size w Z := X.trans (((zbt S N)).mono X.size);generalize U : Z.alloc (.cells #[.bool l, .slice pa (lm B9 a.natAbs).length J] 164) = W1;have x1 : Box2 W1 Z.heap.size (.bool l) (.slice pa (lm B9 a.natAbs).length J) := by rw [<- U]; exact b2n _ _ _ _ _ rfl
  have p : W1.heap.size = Z.heap.size + 1 := by rw [<- U]; simp
  have D : Below w.heap.size w W1 := by rw [<- U]; exact C.alloc h8 _
  have o : Rd .u64 W1 (.slice pa (lm B9 a.natAbs).length J) (lm B9 a.natAbs) := by rw [<- U]; exact G.out.alloc _
  have m : Rd .u64 W1 (.slice H (lm B9 b.natAbs).length I) (lm B9 b.natAbs) := by rw [<- U]; exact E.out.alloc _
  generalize hW : W1.alloc (.cells #[.bool k, .slice H (lm B9 b.natAbs).length I] 164) = W;have y1 : Box2 W (Z.heap.size + 1) (.bool k) (.slice H (lm B9 b.natAbs).length I) := by rw [<- hW]; exact b2n _ _ _ _ _ p
  have Y : Below W1.heap.size W1 W := by rw [<- hW]; exact zal _ _
  have x2 := x1.below Y;have M : Below w.heap.size w W := D.trans (Y.mono (by omega));have rA : Rd .u64 W (.slice pa (lm B9 a.natAbs).length J) (lm B9 a.natAbs) := RdC.below o Y;have rB : Rd .u64 W (.slice H (lm B9 b.natAbs).length I) (lm B9 b.natAbs) := RdC.below m Y;clear hW U x1 D o m Y p C G E X S N;obtain ⟨c0, c1, h, g⟩ := x2;obtain ⟨f, d1, d, c⟩ := y1;have h4 : Good W := hg.below M;have hb : Z.heap.size + 1 < W.heap.size := World.block_lt_of_cell? W _ f;have HV := hid (sml Q O);clear Q O;have A : (lm B9 (a.natAbs * b.natAbs)).length <= 1000000 := by
   have := lml h5 h6;omega
  have j : Hid (Rd .u64 W.drew (.slice pa (lm B9 a.natAbs).length J) (lm B9 a.natAbs)) := rA;have i : Hid (Rd .u64 W.drew (.slice H (lm B9 b.natAbs).length I) (lm B9 b.natAbs)) := rB;clear rA rB h g d c;go_region_held3 (fun w' => w'.cell? ⟨Z.heap.size, 0, none⟩ = some (.bool l) /\ w'.cell? ⟨Z.heap.size, 1, none⟩ = some (.slice pa (lm B9 a.natAbs).length J) /\ w'.cell? ⟨Z.heap.size + 1, 0, none⟩ = some (.bool k) /\ w'.cell? ⟨Z.heap.size + 1, 1, none⟩ = some (.slice H (lm B9 b.natAbs).length I))
   (first | exact ⟨c0, c1, f, d1⟩ | exact ⟨e0, e1, f0, f1⟩ | exact ⟨g0, g1, h0, h1⟩)
   (first
   | (go_at_call 103; refine (td0 _ _ _ a.natAbs b.natAbs j.out i.out (by omega) (by omega)).mono ?_; rintro e w6 ⟨v6, rfl, q, V⟩
      have e0 := zcq V (show Z.heap.size < W.heap.size by omega) c0;have e1 := zcq V (show Z.heap.size < W.heap.size by omega) c1;have f0 := zcq V (show Z.heap.size + 1 < W.heap.size by omega) f;have f1 := zcq V (show Z.heap.size + 1 < W.heap.size by omega) d1;have hj := V.size;obtain ⟨p6, c6, rfl, hc, hf, h7⟩ := q.open;clear h7)
   | (go_at_call 100; refine (cay _ _ (l != k) (a.natAbs * b.natAbs) q A ((h4.drewN 1).below V)).mono ?_; rintro e w7 ⟨_, rfl, rfl, R⟩; rw [HV.out]
      have g0 := zcq R (by have h9 : W.drew.heap.size = W.heap.size := rfl; show Z.heap.size < _; omega) e0;have g1 := zcq R (by have h9 : W.drew.heap.size = W.heap.size := rfl; show Z.heap.size < _; omega) e1;have h0 := zcq R (by have h9 : W.drew.heap.size = W.heap.size := rfl; show Z.heap.size + 1 < _; omega) f0;have h1 := (zcq R (by have h9 : W.drew.heap.size = W.heap.size := rfl; show Z.heap.size + 1 < _; omega) f1 :)))
  all_goals
   go_wp2_with fail;go_ret;exact ⟨_, rfl, rfl, M.trans ((((bdN W 1).trans V).trans (R.mono V.size)).mono M.size)⟩
def cmpZ (a b : Int) : Int := if a < b then -1 else if b < a then 1 else 0
theorem cZl {a b : Int} (h : a < b) : cmpZ a b = -1 := by unfold cmpZ; rw [if_pos h]
theorem cZg {a b : Int} (h : b < a) : cmpZ a b = 1 := by unfold cmpZ; rw [if_neg (by omega), if_pos h]
theorem ld0 {a b : Nat} (h : (decDigits a).length < (decDigits b).length) : a < b := by
 rcases Nat.lt_or_ge a b with Z | Z
 ·exact Z
 ·have Y := (ldD b (decDigits a).length (List.length_pos_iff.2 (dDn a))).2 (Nat.lt_of_le_of_lt Z ((ldD a _ (List.length_pos_iff.2 (dDn a))).1 (Nat.le_refl _)))
  omega
theorem cZs {a b : Int} (h : a.sign = b.sign) : cmpZ a b = a.sign * (if a.natAbs < b.natAbs then -1 else if b.natAbs < a.natAbs then 1 else 0) := by
 rcases Int.lt_trichotomy a 0 with Z | Z | Z
 ·rw [Int.sign_eq_neg_one_of_neg Z] at h ⊢
  have Y : b < 0 := Int.sign_eq_neg_one_iff_neg.1 h.symm;unfold cmpZ;split <;> split <;> first | omega | (split <;> first | omega | (split <;> omega)) | skip
  all_goals (try (split <;> omega))
 ·subst Z
  have Y : b = 0 := Int.sign_eq_zero_iff_zero.1 h.symm;subst Y;simp [cmpZ]
 ·rw [Int.sign_eq_one_of_pos Z] at h ⊢
  have Y : 0 < b := Int.sign_eq_one_iff_pos.1 h.symm;unfold cmpZ;rw [Int.one_mul];split <;> split <;> first | omega | (split <;> omega) | skip
  all_goals (try (split <;> omega))
theorem ce0 (a b : Int) (r : (IS a).size <= 100000) (q : (IS b).size <= 100000) (w : World) :
 Calls Tryz.prog 89 #[.string (IS a), .string (IS b)] w (Same (fun v => v = .int .i64 (cmpZ a b)) w) := by
 have X : ∀ n : Int, -1 <= n.sign /\ n.sign <= 1 := fun n => by
  rcases Int.lt_trichotomy n 0 with h | h | h
  ·rw [Int.sign_eq_neg_one_of_neg h]; omega
  ·subst h; decide
  ·rw [Int.sign_eq_one_of_pos h]; omega
 obtain ⟨Y, U⟩ := zex (a.sign);obtain ⟨E, S⟩ := zex (b.sign);have b1 := X a;have j := X b;rw [<- U] at b1;rw [<- S] at j;have Z := hid U;have R := hid S;have y : Hid (Y < E -> a < b) := by
  unfold Hid; intro h;rw [Z.out, R.out] at h;rcases Int.lt_or_le a b with G | G
  ·exact G
  ·exfalso
   rcases Int.lt_trichotomy a 0 with V | V | V
   ·have Q : b < 0 := by omega
    rw [Int.sign_eq_neg_one_of_neg V, Int.sign_eq_neg_one_of_neg Q] at h; omega
   ·subst V
    have := X b;rcases Int.lt_or_le b 0 with Q | Q
    ·rw [Int.sign_eq_neg_one_of_neg Q] at h; simp at h
    ·have I : b = 0 := by omega
     subst I; omega
   ·rw [Int.sign_eq_one_of_pos V] at h
    have := X b; omega
 have z : Hid (E < Y -> b < a) := by
  unfold Hid; intro h;rw [Z.out, R.out] at h;rcases Int.lt_or_le b a with G | G
  ·exact G
  ·exfalso
   rcases Int.lt_trichotomy b 0 with V | V | V
   ·have Q : a < 0 := by omega
    rw [Int.sign_eq_neg_one_of_neg V, Int.sign_eq_neg_one_of_neg Q] at h; omega
   ·subst V
    rcases Int.lt_or_le a 0 with Q | Q
    ·rw [Int.sign_eq_neg_one_of_neg Q] at h; simp at h
    ·have I : a = 0 := by omega
     subst I; omega
   ·rw [Int.sign_eq_one_of_pos V] at h
    have := X a; omega
 clear X U S;go_enter Tryz.func89, Tryz.ntmps89;go_wp2_with fail;refine (sb0 a _).mono ?_;rintro e D ⟨_, rfl, rfl, rfl⟩;rw [<- Z.out];go_wp2_with fail;refine (sb0 b _).mono ?_;rintro e D ⟨_, rfl, rfl, rfl⟩;rw [<- R.out];rcases Int.lt_trichotomy Y E with h | h | h
 ·have o : (Y != E) = true := by rw [bne_iff_ne]; omega
  have M := hid (cZl (y.out h));go_wp2_with fail;go_ret;exact ⟨_, rfl, congrArg (Value.int .i64) M.out.symm, rfl⟩
 ·subst h
  have o : (Y != Y) = false := by simp
  have x := hid (cZs (Z.out.symm.trans R.out));have g : (BS (decDigits a.natAbs)).size <= 100000 := by
   have := iln a;rw [Ise] at r;rw [Bse, decDigits_length]; split at this <;> omega
  have lb : (BS (decDigits b.natAbs)).size <= 100000 := by
   have := iln b;rw [Ise] at q;rw [Bse, decDigits_length]; split at this <;> omega
  go_wp2_with fail;refine (tMa _ _).mono ?_;rintro e D ⟨_, rfl, rfl, rfl⟩;rw [tIS];go_wp2_with fail;refine (tMa _ _).mono ?_;rintro e D ⟨_, rfl, rfl, rfl⟩;rw [tIS];have B := hid (dDd a.natAbs);have A := hid (dDd b.natAbs);have t := hid (ddD a.natAbs);have s := hid (ddD b.natAbs);have L := hid (Bse (decDigits a.natAbs));have K := hid (Bse (decDigits b.natAbs));rcases Nat.lt_trichotomy (BS (decDigits a.natAbs)).size (BS (decDigits b.natAbs)).size with J | J | J
  ·have m : (((BS (decDigits a.natAbs)).size : Int) != ((BS (decDigits b.natAbs)).size : Int)) = true := by rw [bne_iff_ne]; omega
   have N : Hid (a.natAbs < b.natAbs) := ld0 (by rw [<- L.out, <- K.out]; exact J);have M : Hid (-Y = cmpZ a b) := by unfold Hid; rw [x.out, if_pos N.out, <- Z.out]; omega
   go_wp2_with fail;go_ret;exact ⟨_, rfl, congrArg (Value.int .i64) M.out, rfl⟩
  ·have m : (((BS (decDigits a.natAbs)).size : Int) != ((BS (decDigits b.natAbs)).size : Int)) = false := by rw [bne_eq_false_iff_eq]; omega
   have k := hid J;have l : Hid (compareBytes (BS (decDigits a.natAbs)).data.toList (BS (decDigits b.natAbs)).data.toList = (if a.natAbs < b.natAbs then -1 else if b.natAbs < a.natAbs then 1 else 0)) := by
    unfold Hid;rw [Blt, Blt, cBd _ _ B.out A.out (by rw [<- L.out, <- K.out]; exact J), t.out, s.out]
   clear J;obtain ⟨H, O⟩ := zex ((if a.natAbs < b.natAbs then -1 else if b.natAbs < a.natAbs then 1 else 0) : Int);have p : -1 <= H /\ H <= 1 := by rw [O]; split; omega; split <;> omega
   have M : Hid (Y * H = cmpZ a b) := by unfold Hid; rw [x.out, O, <- Z.out]
   have i : -1 <= Y * H /\ Y * H <= 1 := by
    rcases (by omega : Y = -1 \/ Y = 0 \/ Y = 1) with e | e | e <;> rw [e] <;> omega
   have C := hid O;clear O;go_wp2_with fail;refine (sm0 _ _ _).mono ?_;rintro e D ⟨_, rfl, rfl, rfl⟩;rw [l.out, <- C.out];go_wp2_with fail;go_ret;exact ⟨_, rfl, congrArg (Value.int .i64) M.out, rfl⟩
  ·have m : (((BS (decDigits a.natAbs)).size : Int) != ((BS (decDigits b.natAbs)).size : Int)) = true := by rw [bne_iff_ne]; omega
   have N : Hid (b.natAbs < a.natAbs) := ld0 (by rw [<- L.out, <- K.out]; exact J);have M : Hid (Y = cmpZ a b) := by unfold Hid; have := N.out; rw [x.out, if_neg (by omega), if_pos N.out, <- Z.out]; omega
   go_wp2_with fail;go_ret;exact ⟨_, rfl, congrArg (Value.int .i64) M.out, rfl⟩
 ·have o : (Y != E) = true := by rw [bne_iff_ne]; omega
  have M := hid (cZg (z.out h));go_wp2_with fail;go_ret;exact ⟨_, rfl, congrArg (Value.int .i64) M.out.symm, rfl⟩
theorem df0 (w : World) (Y X : Value) (a b : Nat) (U : Rd .u64 w Y (lm B9 a)) (S : Rd .u64 w X (lm B9 b)) (R : 0 < b) (Z : (lm B9 a).length <= 900000) :
 Calls Tryz.prog 132 #[Y, X] w (Ret (QR (a / b) (a % b)) w) := by
 rcases Nat.lt_or_ge a b with h | h
 ·have := dls w Y X a b U S h
  exact this
 ·rcases Nat.lt_or_ge b B9 with V | V
  ·exact doe w Y X a b U S h R V (by omega)
  ·exact dme w Y X a b U S h V Z
theorem deq {a b : Int} (G : b ≠ 0) {ma mb : Bool} (N : ma = decide (a < 0)) (M : mb = decide (b < 0)) {d m : Nat}
 (Z : d = if ma = true /\ 0 < a.natAbs % b.natAbs then a.natAbs / b.natAbs + 1 else a.natAbs / b.natAbs)
 (Y : m = if ma = true /\ 0 < a.natAbs % b.natAbs then b.natAbs - a.natAbs % b.natAbs else a.natAbs % b.natAbs) :
 (if (ma != mb) then -(d : Int) else (d : Int)) = a / b /\ (m : Int) = a % b := by
 have K : 0 < b.natAbs := by omega
 have H := Nat.mod_lt a.natAbs K;have O := Nat.div_add_mod a.natAbs b.natAbs;generalize J : b.natAbs = B at *;generalize a.natAbs % B = r at *;generalize a.natAbs / B = q at *;have key : ∀ s : Int, s = (if ma then -(d : Int) else (d : Int)) -> s = a / (B : Int) /\ (m : Int) = a % (B : Int) := by
  intro s X;have S : (0 : Int) < (B : Int) := by omega
  have := (Int.ediv_emod_unique (a := a) (b := (B : Int)) (r := (m : Int)) (q := s) S).2 ?_
  ·exact ⟨this.1.symm, this.2.symm⟩
  ·have Q : (B : Int) * (q : Int) + (r : Int) = (a.natAbs : Int) := by rw [<- O]; push_cast; rfl
   cases ma
   ·have I := of_decide_eq_false N.symm
    simp only [Bool.false_eq_true, false_and, if_false] at Z Y X;subst Z; subst Y; subst X;refine ⟨by omega, by omega, by omega⟩
   ·have I := of_decide_eq_true N.symm
    by_cases hr : 0 < r
    ·simp only [hr, and_self, if_true] at Z Y X
     subst Z; subst Y; subst X;refine ⟨?_, by omega, by omega⟩;have L : ((B - r : Nat) : Int) = (B : Int) - r := by omega
     rw [L];push_cast;rw [Int.mul_neg, Int.mul_add];omega
    ·simp only [hr, and_false, if_false, if_true] at Z Y X
     subst Z; subst Y; subst X;refine ⟨?_, by omega, by omega⟩;rw [Int.mul_neg];omega
 obtain ⟨V, U⟩ := key _ rfl;cases mb
 ·have R := of_decide_eq_false M.symm
  have e : (B : Int) = b := by omega
  rw [e] at V U;refine ⟨?_, U⟩;rw [<- V];cases ma <;> rfl
 ·have R := of_decide_eq_true M.symm
  have e : (B : Int) = -b := by omega
  rw [e, Int.ediv_neg] at V;rw [e, Int.emod_neg] at U;refine ⟨?_, U⟩;cases ma
  ·simp only [Bool.false_eq_true, if_false] at V
   simp; omega
  ·simp only [if_true] at V
   simp; omega
theorem day (a b : Int) (hi : (IS a).size <= 100000) (hj : (IS b).size <= 100000) (t : b ≠ 0) (w : World) (hg : Good w) :
 Calls Tryz.prog 94 #[.string (IS a), .string (IS b)] w (Ret (fun v _ => v = .tuple #[.string (IS (a / b)), .string (IS (a % b)), .int .i64 0]) w) := by
 have hK := l9l hi;have hL := l9l hj;have hY : ((IS b).toList == [48]) = false := by rw [Ie4]; exact decide_eq_false t
 have f : Hid (0 < b.natAbs) := by unfold Hid; omega
 have hp := hid t;clear t;go_enter Tryz.func94, Tryz.ntmps94;go_wp2_with fail;refine (oa0 a hi _).mono ?_;rintro e w4 ⟨_, rfl, ⟨va, rfl, l⟩, s⟩;go_wp2_with fail;refine (oa0 b hj _).mono ?_;rintro e X ⟨_, rfl, ⟨vb, rfl, k⟩, C⟩;obtain ⟨pa, ca, rfl, z1, z8, he⟩ := l.open;obtain ⟨x, A, rfl, z2, z9, hf⟩ := k.open;have K := hid (RdC.below l C);have O := hid k;clear l k he hf;go_upto_region 4 with fail;obtain ⟨E, H⟩ := zex (decide (a < 0));obtain ⟨L, G⟩ := zex (decide (b < 0));rw [<- H, <- G];have hR : w.heap.size <= X.heap.size := by have := s.size; have := C.size; omega
 have h7 : Below w.heap.size w X := zbt s C;generalize M : X.alloc (.cells #[.bool E, .slice pa (lm B9 a.natAbs).length ca] 164) = W1;have x1 : Box2 W1 X.heap.size (.bool E) (.slice pa (lm B9 a.natAbs).length ca) := by rw [<- M]; exact b2n _ _ _ _ _ rfl
 have hl : W1.heap.size = X.heap.size + 1 := by rw [<- M]; simp
 have h6 : Below w.heap.size w W1 := by rw [<- M]; exact h7.alloc hR _
 have hm : Rd .u64 W1 (.slice pa (lm B9 a.natAbs).length ca) (lm B9 a.natAbs) := by rw [<- M]; exact K.out.alloc _
 have hn : Rd .u64 W1 (.slice x (lm B9 b.natAbs).length A) (lm B9 b.natAbs) := by rw [<- M]; exact O.out.alloc _
 generalize hW : W1.alloc (.cells #[.bool L, .slice x (lm B9 b.natAbs).length A] 164) = W;have y1 : Box2 W (X.heap.size + 1) (.bool L) (.slice x (lm B9 b.natAbs).length A) := by rw [<- hW]; exact b2n _ _ _ _ _ hl
 have V : Below W1.heap.size W1 W := by rw [<- hW]; exact zal _ _
 have x2 := x1.below V;have p : Below w.heap.size w W := h6.trans (V.mono (by omega));have rA : Rd .u64 W (.slice pa (lm B9 a.natAbs).length ca) (lm B9 a.natAbs) := RdC.below hm V;have rB : Rd .u64 W (.slice x (lm B9 b.natAbs).length A) (lm B9 b.natAbs) := RdC.below hn V;clear hW M x1 h6 hm hn V hl h7 K O s C;obtain ⟨c0, c1, hA, hB⟩ := x2;obtain ⟨d0, d1, hC, hD⟩ := y1;have hb : Good W := hg.below p;have D : X.heap.size + 1 < W.heap.size := World.block_lt_of_cell? W _ d0;have c : Hid (∀ d m : Nat, (d = if E = true /\ 0 < a.natAbs % b.natAbs then a.natAbs / b.natAbs + 1 else a.natAbs / b.natAbs) -> (m = if E = true /\ 0 < a.natAbs % b.natAbs then b.natAbs - a.natAbs % b.natAbs else a.natAbs % b.natAbs) ->
  (if (E != L) then -(d : Int) else (d : Int)) = a / b /\ (m : Int) = a % b) := fun d m h3 h4 => deq hp.out H G h3 h4
 have z : a.natAbs % b.natAbs < b.natAbs := Nat.mod_lt _ f.out;clear H G;have K := hid rA;have O := hid rB;clear rA rB;go_wp2_with fail;refine (df0 _ _ _ a.natAbs b.natAbs K.out O.out f.out (by omega)).mono ?_;rintro e Z ⟨_, rfl, ⟨vq, vr, rfl, hq, hr⟩, Y⟩;generalize hh : a.natAbs % b.natAbs = r at *;generalize o : a.natAbs / b.natAbs = q at *;have hM : (lm B9 q).length <= 100000 := by
  refine Nat.le_trans (la0 B9 q _ tlB (Nat.lt_of_le_of_lt ?_ (lll B9 a.natAbs tlB))) hK;rw [<- o]; exact Nat.div_le_self _ _
 have z5 : (lm B9 r).length <= 100000 := Nat.le_trans (la0 B9 r _ tlB (Nat.lt_trans z (lll B9 b.natAbs tlB))) hL;obtain ⟨pq, cq, rfl, z3, za, hN⟩ := hq.open;obtain ⟨pr, cr, rfl, z4, zb, hO⟩ := hr.open;have hX : X.heap.size < W.heap.size := by omega
 have e0 := zcq Y hX c0;have e1 := zcq Y hX c1;have f0 := zcq Y D d0;have f1 := zcq Y D d1;have h2 : Hid (Rd .u64 Z (.slice x (lm B9 b.natAbs).length A) (lm B9 b.natAbs)) := RdC.below O.out Y;have Q : Below w.heap.size w Z := zbt p Y;have zc : X.heap.size + 1 < Z.heap.size := Nat.lt_of_lt_of_le D Y.size;have HQ := hid hq;have HR := hid hr;have h9 := hb.below Y;have hV := hid hh;have hU := hid o;clear c0 c1 d0 d1 hA hB hC hD K O hq hr hN hO Y p hb hh o D;go_upto_region 5 with fail;by_cases hneg : E = true /\ 0 < r
 ·obtain ⟨rfl, n⟩ := hneg
  have hG : 0 < (lm B9 r).length := List.length_pos_iff.2 (lnn B9 r tlB n);have g : Hid ((if (!L) then -((q + 1 : Nat) : Int) else ((q + 1 : Nat) : Int)) = a / b /\ ((b.natAbs - r : Nat) : Int) = a % b) := by
   have := c.out (q + 1) (b.natAbs - r) (by simp [n]) (by simp [n]);rwa [Bool.true_bne] at this
  have y : Rd .u64 (Z.drew.alloc (.cells #[.int .u64 1] 193)) (.slice (some ⟨Z.heap.size, 0, none⟩) 1 1) (lm B9 1) := by
   have e : lm B9 1 = [1] := by
    rw [lps B9 1 tlB (by decide), show 1 / B9 = 0 from rfl, lzo]; rfl
   rw [e];exact roe _ _ 1 1 rfl (by show (Z.drew.alloc _).cell? ⟨Z.drew.heap.size, 0, none⟩ = _; rw [World.cell?_alloc_at _ _ _ _ rfl]; rfl)
  have h1 := hid y;clear y;have hv : Hid (Rd .u64 (Z.drew.alloc (.cells #[.int .u64 1] 193)) (.slice pq (lm B9 q).length cq) (lm B9 q)) := RdC.alloc (RdC.drewN HQ.out 1) _;have hx : Hid (Rd .u64 (Z.drew.alloc (.cells #[.int .u64 1] 193)) (.slice pr (lm B9 r).length cr) (lm B9 r)) := RdC.alloc (RdC.drewN HR.out 1) _;have hs : Hid (Rd .u64 (Z.drew.alloc (.cells #[.int .u64 1] 193)) (.slice x (lm B9 b.natAbs).length A) (lm B9 b.natAbs)) := RdC.alloc (RdC.drewN h2.out 1) _;have hk : (Z.drew.alloc (.cells #[.int .u64 1] 193)).heap.size = Z.heap.size + 1 := by simp
  have h5 : (Z.drew.alloc (.cells #[.int .u64 1] 193)).cell? ⟨X.heap.size + 1, 1, none⟩ = some (.slice x (lm B9 b.natAbs).length A) := cal (W := Z.drew) _ f1;have hE : (Z.drew.alloc (.cells #[.int .u64 1] 193)).cell? ⟨X.heap.size, 0, none⟩ = some (.bool true) := cal (W := Z.drew) _ e0;have hF : (Z.drew.alloc (.cells #[.int .u64 1] 193)).cell? ⟨X.heap.size + 1, 0, none⟩ = some (.bool L) := cal (W := Z.drew) _ f0;have h8 : Below Z.heap.size Z (Z.drew.alloc (.cells #[.int .u64 1] 193)) := (bdN Z 1).alloc (Nat.le_refl _) _;have l1 : (lm B9 1).length <= 1000000 := by
   have := la0 B9 1 1 tlB (by decide); omega
  have ht : Hid (r <= b.natAbs) := Nat.le_of_lt z;have N := hid hk;clear hk;go_wp2_with fail;go_region_held3 (fun w' => w'.cell? ⟨X.heap.size + 1, 1, none⟩ = some (.slice x (lm B9 b.natAbs).length A))
   (first | exact f1 | exact h5 | exact p1 | exact m1)
   (first
   | (go_at_call 99; refine (pc0 _ _ _ q 1 hv.out h1.out (by omega) l1).mono ?_; rintro e w7 ⟨v7, rfl, j, U⟩
      have p1 := zcq U (by have := N.out; show X.heap.size + 1 < _; omega) h5;have p2 := zcq U (by have := N.out; show X.heap.size < _; omega) hE;have p3 := zcq U (by have := N.out; show X.heap.size + 1 < _; omega) hF;have zd := U.size;have hw := hid (RdC.below hx.out U);have ho := hid (RdC.below hs.out U);obtain ⟨p7, c7, rfl, hZ, z6, hP⟩ := j.open;clear hP)
   | (go_at_call 102; refine (mb0 _ _ _ b.natAbs r ho.out hw.out ht.out (by omega)).mono ?_; rintro e w8 ⟨v8, rfl, i, S⟩
      have m1 := zcq S (by have := N.out; show X.heap.size + 1 < _; omega) p1;have m2 := zcq S (by have := N.out; show X.heap.size < _; omega) p2;have m3 := zcq S (by have := N.out; show X.heap.size + 1 < _; omega) p3;have hu := hid (RdC.below j S);obtain ⟨p8, c8, rfl, z0, z7, hQ⟩ := i.open;clear hQ))
  all_goals
   have I : Below w.heap.size w w8 := Q.trans ((h8.trans (((zbt U S)).mono h8.size)).mono Q.size);have ha := hg.below I;have hc : (lm B9 (q + 1)).length <= 1000000 := by
    have := lal hM (show (lm B9 1).length <= 100000 by have := la0 B9 1 1 tlB (by decide); omega); omega
   have hd : (lm B9 (b.natAbs - r)).length <= 1000000 := by
    refine Nat.le_trans (la0 B9 _ (lm B9 b.natAbs).length tlB (Nat.lt_of_le_of_lt (Nat.sub_le _ _) (lll B9 b.natAbs tlB))) (by omega)
   have hy := hid i;have hT := hid S;clear j i U p1 p2 p3 S;go_wp2_with fail;refine (cay _ _ (!L) (q + 1) hu.out hc ha).mono ?_;rintro e w9 ⟨_, rfl, rfl, R⟩;rw [g.out.1];go_wp2_with fail;refine (cay _ _ false (b.natAbs - r) (RdC.below hy.out R) hd (ha.below R)).mono ?_;rintro e hS ⟨_, rfl, rfl, J⟩;rw [show (if false then -((b.natAbs - r : Nat) : Int) else ((b.natAbs - r : Nat) : Int)) = a % b from g.out.2];go_wp2_with fail
   go_ret3
   exact ⟨_, rfl, rfl, I.trans (((zbt R J)).mono I.size)⟩
 ·have hz : E = true -> (lm B9 r).length = 0 := fun h => by
   have : r = 0 := by
    rcases Nat.eq_zero_or_pos r with h0 | h0
    ·exact h0
    ·exact absurd ⟨h, h0⟩ hneg
   rw [this, lzo]; rfl
  have g : Hid ((if (E != L) then -(q : Int) else (q : Int)) = a / b /\ (r : Int) = a % b) := c.out q r (by rw [if_neg hneg]) (by rw [if_neg hneg]);have hH : (lm B9 r).length <= 1000000 := by omega
  have hJ : (lm B9 q).length <= 1000000 := by omega
  have HZ := hid hz;clear hz hneg;obtain ⟨mm, B⟩ := zex ((E != L));rw [<- B] at g;cases E
  case' true =>
   have hG : ¬ 0 < (lm B9 r).length := by have := HZ.out rfl; omega
   have HM : Hid (mm = !L) := by unfold Hid; rw [B]; cases L <;> rfl
  case' false =>
   have HM : Hid (mm = L) := by unfold Hid; rw [B]; cases L <;> rfl
  all_goals
   clear B;go_wp2_with fail;rw [<- HM.out];refine (cay _ _ mm q HQ.out hJ h9).mono ?_;rintro e w9 ⟨_, rfl, rfl, R⟩;rw [g.out.1];go_wp2_with fail;refine (cay _ _ false r (RdC.below HR.out R) hH (h9.below R)).mono ?_;rintro e hS ⟨_, rfl, rfl, J⟩;rw [show (if false then -(r : Int) else (r : Int)) = a % b from g.out.2];go_wp2_with fail
   go_ret3
   exact ⟨_, rfl, rfl, Q.trans (((zbt R J)).mono Q.size)⟩
theorem tnA (x y : Int) : (x.tmod y).natAbs = x.natAbs % y.natAbs := by
 rw [Int.natAbs_tmod]
theorem gsp (x y : Nat) : Nat.gcd y (x % y) = Nat.gcd x y := by
 rw [Nat.gcd_comm x y, Nat.gcd_rec y x];rw [Nat.gcd_comm]
theorem fn1 (x y : Value) (w : World) : (Instr.field 164 (.agg #[x, y]) 1).run Tryz.prog w = .ok y w := by kernel_rfl
theorem gay (a b : Int) (s : (IS a).size <= 100000) (r : (IS b).size <= 100000) (w : World) (hg : Good w) :
 Calls Tryz.prog 90 #[.string (IS a), .string (IS b)] w (Ret (fun v _ => v = .string (IS (Int.gcd a b : Nat))) w) := by
 have g := l9l s;have f := l9l r;go_enter Tryz.func90, Tryz.ntmps90;go_wp2_with fail;refine (qay a 18 (by omega) _).mono ?_;rintro e w1 ⟨_, rfl, ⟨x, one, rfl, hx⟩, G⟩;go_upto_if 18 with fail;go_cut [] (fun wx => Below w.heap.size w wx)
 case first =>
  cases one
  ·go_wp2_with fail
   go_meet;exact G
  ·obtain ⟨rfl, h1⟩ := hx rfl
   have k1 := slm (n := x) (by omega);go_wp2_with fail;refine (qay b 18 (by omega) _).mono ?_;rintro e w2 ⟨_, rfl, ⟨y, h7, rfl, hy⟩, k⟩;have Z := zbt G k;cases h7
   ·go_wp2_with fail
    go_meet;exact Z
   ·obtain ⟨rfl, h2⟩ := hy rfl
    have k2 := slm (n := y) (by omega);have i := hg.below Z;go_wp2_with fail;go_loopw [5, 7] (fun t5 t7 wr => ∃ m n : Int, t5 = .int .i64 m /\ t7 = .int .i64 n /\ Hid (Nat.gcd m.natAbs n.natAbs = Int.gcd x y) /\ (-1000000000000000000 < m /\ m < 1000000000000000000) /\ (-1000000000000000000 < n /\ n < 1000000000000000000) /\ ∃ j, wr = w2.drewN j) (fun _ t7 _ => (RowKit.intOf t7).natAbs)
    case atStart => exact ⟨x, y, rfl, rfl, rfl, k1, k2, 0, rfl⟩
    case round =>
     obtain ⟨m, n, rfl, rfl, K, hm, hn, j, rfl⟩ := hrel;by_cases hz : n = 0
     ·subst hz
      have o : Hid (max m (-m) = ((Int.gcd x y : Nat) : Int)) := by
           unfold Hid;have := K.out;rw [Int.natAbs_zero, Nat.gcd_zero_right] at this;omega
      have hc : ((Int.gcd x y : Nat) : Int) < 1000000000000000000 := by rw [<- o.out]; omega
      go_wp2_with fail;rw [o.out];refine (ob0 _ (by omega) (by omega) _ (i.drewN j)).mono ?_;rintro e w3 ⟨_, rfl, rfl, V⟩;go_wp2_with fail;go_ret;exact ⟨_, rfl, rfl, Z.trans (((bdN w2 j).trans V).mono Z.size)⟩
     ·have hi : (n != 0) = true := by rw [bne_iff_ne]; exact hz
      have U : (m.tmod n).natAbs < n.natAbs := by rw [tnA]; exact Nat.mod_lt _ (by omega)
      have l : Hid (Nat.gcd n.natAbs (m.tmod n).natAbs = Int.gcd x y) := by
           unfold Hid; rw [tnA, gsp]; exact K.out
      have h5 : -1000000000000000000 < m.tmod n /\ m.tmod n < 1000000000000000000 := by omega
      go_wp2_with fail;go_quiet (fail);go_wp2_with fail;go_roundw
      case rel => exact ⟨n, m.tmod n, rfl, rfl, l, hn, h5, dsp ⟨j, rfl⟩ _⟩
      case measure => exact U
 case rest =>
  have Z := hcut;clear hcut;have hb := fn1;go_wp2_with fail;refine (oa0 a s _).mono ?_;rintro e w4 ⟨_, rfl, ⟨va, rfl, N⟩, V⟩;obtain ⟨pa, ca, rfl, h8, he, z⟩ := N.open;go_wp2_with fail;refine (oa0 b r _).mono ?_;rintro e w5 ⟨_, rfl, ⟨vb, rfl, M⟩, Q⟩;obtain ⟨pb, cb, rfl, h9, hf, t⟩ := M.open;have H := RdC.below N Q;have E : Below w.heap.size w w5 := Z.trans (((zbt V Q)).mono Z.size);clear N z t V Q Z;go_wp2_with fail
  go_loopg [9, 10] b.natAbs (fun n t9 t10 wr => ∃ (m : Nat) (p q : Option Addr) (c d : Nat), t9 = .slice p (lm B9 m).length c /\ t10 = .slice q (lm B9 n).length d /\ Hid (Nat.gcd m n = Int.gcd a b) /\ (lm B9 m).length <= 100000 /\ (lm B9 n).length <= 100000 /\ Rd .u64 wr t9 (lm B9 m) /\ Rd .u64 wr t10 (lm B9 n) /\ Below w.heap.size w wr)
  case atStart => exact ⟨a.natAbs, pa, pb, ca, cb, rfl, rfl, rfl, g, f, H, M, E⟩
  case round =>
   clear H M E;obtain ⟨m, p, q, c, d, rfl, rfl, K, hd, A, S, L, O⟩ := hrel;rcases Nat.eq_zero_or_pos gk with h0 | X
   ·subst h0
    have o : Hid ((if false then -(m : Int) else (m : Int)) = ((Int.gcd a b : Nat) : Int)) := by
     unfold Hid; rw [<- K.out, Nat.gcd_zero_right]; rfl
    have h3 : ¬ 0 < (lm B9 0).length := by rw [lzo]; simp
    have C : (lm B9 m).length <= 1000000 := by omega
    have R := hid S;have h := hg.below O;clear S L;go_wp2_with fail;refine (cay _ _ false m R.out C h).mono ?_;rintro e w6 ⟨_, rfl, rfl, Y⟩;rw [o.out];go_wp2_with fail;go_ret;exact ⟨_, rfl, rfl, (zbt O Y)⟩
   ·have h3 : 0 < (lm B9 gk).length := List.length_pos_iff.2 (lnn B9 gk tlB X)
    have U : m % gk < gk := Nat.mod_lt _ X;have l : Hid (Nat.gcd gk (m % gk) = Int.gcd a b) := by unfold Hid; rw [gsp]; exact K.out
    have h4 : (lm B9 (m % gk)).length <= 100000 := Nat.le_trans (la0 B9 _ _ tlB (Nat.lt_trans U (lll B9 gk tlB))) A;have B : (lm B9 m).length <= 900000 := by omega
    have R := hid S;have J := hid L;clear S L;go_wp2_with fail;refine (df0 _ _ _ m gk R.out J.out X B).mono ?_;rintro e w6 ⟨_, rfl, ⟨vq, vr, rfl, hq, hr⟩, Y⟩;obtain ⟨pr, cr, rfl, ha, hh, h6⟩ := hr.open;have I := hid (RdC.below J.out Y);have D := zbt O Y;clear h6 hq Y;go_wp2_with fail
    go_roundg (m % gk)
    case measure => exact U
    case rel => exact ⟨gk, _, _, _, _, rfl, rfl, l, A, h4, I.out, hr, D⟩
def rII (l : List UInt8) : Bool := cBB l && decide ((trimPrefix l [45]).length <= 200)
def eNm (b : Bool) : Int := if b then 0 else 2
theorem rIb {l t : List UInt8} {m : Bool} (S : t = trimPrefix l [45]) (U : m = hasPrefix l [45])
 (h : t = [] \/ 200 < t.length \/ (t.head? = some 48 /\ (1 < t.length \/ m = true)) \/ ∃ c ∈ t, ¬ isDig c) : rII l = false := by
 unfold rII cBB;rw [<- S, <- U];rcases h with rfl | h | ⟨Y, Z⟩ | ⟨c, X, V⟩
 ·simp
 ·simp; intros; omega
 ·rcases Z with Z | Z <;> simp [Y, Z]
 ·have : t.all (fun c => decide (isDig c)) = false := by
   rw [List.all_eq_false]; exact ⟨c, X, by simpa using V⟩
  simp only [this, Bool.and_false, Bool.false_and]
theorem rIg {l t : List UInt8} {m : Bool} (O : t = trimPrefix l [45]) (Q : m = hasPrefix l [45])
 (Z : t ≠ []) (Y : t.length <= 200) (X : t.head? = some 48 -> t.length <= 1 /\ m = false) (V : ∀ c ∈ t, isDig c) : rII l = true := by
 unfold rII cBB;rw [<- O, <- Q];have : t.all (fun c => decide (isDig c)) = true := by
  rw [List.all_eq_true]; intro c R; simpa using V c R
 simp only [this, Bool.and_true, Bool.and_eq_true, Bool.not_eq_true', decide_eq_true_eq];refine ⟨⟨by simpa using Z, ?_⟩, Y⟩;rw [Bool.and_eq_false_iff];by_cases h : t.head? = some 48
 ·right
  obtain ⟨U, S⟩ := X h;rw [S]; simp; exact U
 ·left; simpa using h
theorem cIa (s : ByteArray) (hs : s.size <= 1000000000000) (w : World) :
 Calls Tryz.prog 88 #[.string s] w (Same (fun v => v = .int .i64 (eNm (rII s.data.toList))) w) := by
 obtain ⟨t, q⟩ := zex (trimPrefix s.data.toList [45]);obtain ⟨m, l⟩ := zex (hasPrefix s.data.toList [45]);obtain ⟨T, n⟩ := zex (BS t);have y : T.data.toList = t := by rw [n, Blt]
 have U : T.size = t.length := by rw [n, Bse]
 have hb : t.length <= s.size := by
  rw [q]; unfold trimPrefix;have : s.data.toList.length = s.size := by rw [Array.length_toList]; rfl
  split
  ·rw [List.length_drop]; omega
  ·omega
 have Z := hid (fun h => rIb q l h);have M := hid (fun o h2 h3 h4 => rIg q l o h2 h3 h4);have HT := hid q;have HM := hid l;have f := hid n;have O := hid y;have V := hid U;have ha : T.size <= 1000000000000 := by omega
 clear q l n y;go_enter Tryz.func88, Tryz.ntmps88;go_wp2_with fail;refine (cMa _ _).mono ?_;rintro e w1 ⟨_, rfl, rfl, rfl⟩;rw [<- HT.out, <- HM.out, <- f.out];rcases Nat.eq_zero_or_pos T.size with h0 | H
 ·have I : t = [] := by rw [h0] at U; exact List.length_eq_zero_iff.1 U.symm
  have h7 : T.toList = [] := by rw [btL, O.out]; exact I
  have X : Hid (rII s.data.toList = false) := Z.out (.inl I);clear I U;go_wp2_with fail;go_ret;exact ⟨_, rfl, congrArg (Value.int .i64) (show (2 : Int) = eNm _ by rw [X.out]; rfl), rfl⟩
 ·have h7 : T.toList.isEmpty = false := by
   rw [btL, O.out];cases t with
   | nil => rw [List.length_nil] at U; omega
   | cons c r => rfl
  rcases Nat.lt_or_ge 200 T.size with L | L
  ·have X : Hid (rII s.data.toList = false) := Z.out (.inr (.inl (by omega)))
   clear U;go_wp2_with fail;go_ret;exact ⟨_, rfl, congrArg (Value.int .i64) (show (2 : Int) = eNm _ by rw [X.out]; rfl), rfl⟩
  ·have J : t.head? = some T[0] := by
    have e : T.data.toList.head? = some T[0] := by
     rw [List.head?_eq_getElem?, List.getElem?_eq_getElem (by rw [Array.length_toList]; exact H)]; rfl
    rw [<- O.out]; exact e
   have i := hid J;obtain ⟨c0, E⟩ : ∃ c0 : Nat, T[0].toNat = c0 := ⟨_, rfl⟩;have j := hid E;have h8 : decide ((200 : Int) < (T.size : Int)) = false := by simp; omega
   clear J;rcases (by omega : (c0 = 48 /\ 1 < T.size) \/ (c0 = 48 /\ T.size = 1) \/ c0 ≠ 48) with ⟨N, o⟩ | ⟨N, o⟩ | N
   ·have X : Hid (rII s.data.toList = false) := Z.out (.inr (.inr (.inl ⟨by rw [i.out]; exact congrArg some (UInt8.toNat_inj.1 (by rw [E, N]; rfl)), .inl (by omega)⟩)))
    subst N;have t1 : decide ((1 : Int) < (T.size : Int)) = true := by simp; omega
    clear U;go_wp2_with fail;go_ret;exact ⟨_, rfl, congrArg (Value.int .i64) (show (2 : Int) = eNm _ by rw [X.out]; rfl), rfl⟩
   ·have t1 : decide ((1 : Int) < (T.size : Int)) = false := by simp; omega
    subst N;have b : T.size <= 1 := by omega
    clear U o;cases m
    ·have d : Hid (t.head? = some 48 -> t.length <= 1 /\ false = false) := fun _ => ⟨by rw [<- V.out]; exact b, rfl⟩
     go_wp2_with fail;go_loop [33] (fun t33 => ∃ k : Nat, k <= T.size /\ t33 = .int .i64 k /\ Hid (∀ c ∈ t.take k, isDig c)) (fun t33 => T.size - (RowKit.intOf t33).toNat)
     case atStart => exact ⟨0, Nat.zero_le _, rfl, by intro c S; simp at S⟩
     case round =>
      obtain ⟨k, hk, rfl, B⟩ := hrel;rcases Nat.lt_or_ge k T.size with C | D
      ·obtain ⟨Y, K⟩ : ∃ Y : Nat, T[k].toNat = Y := ⟨_, rfl⟩
       have Q := hid K;have x : Y < 256 := by rw [<- K]; exact UInt8.toNat_lt _
       have G : Hid (t.take (k + 1) = t.take k ++ [T[k]]) := by
        unfold Hid;have A : k < t.length := by rw [<- V.out]; exact C
        rw [List.take_succ_eq_append_getElem A];congr 2;have : T.data.toList[k]'(by rw [O.out]; exact A) = t[k] := by simp only [O.out]
        rw [<- this]; rfl
       have R : Hid (T[k] ∈ t) := by
        have a : T[k] ∈ t.take (k + 1) := by rw [G.out]; simp
        exact List.mem_of_mem_take a
       rcases (by omega : Y < 48 \/ 57 < Y \/ (48 <= Y /\ Y <= 57)) with h | h | h
       ·have X : Hid (rII s.data.toList = false) := Z.out (.inr (.inr (.inr ⟨T[k], R.out, by unfold isDig; rw [Q.out]; omega⟩)))
        have p : decide ((Y : Int) < 48) = true := by simp; omega
        go_wp2_with fail;go_ret;exact ⟨_, rfl, congrArg (Value.int .i64) (show (2 : Int) = eNm _ by rw [X.out]; rfl), rfl⟩
       ·have X : Hid (rII s.data.toList = false) := Z.out (.inr (.inr (.inr ⟨T[k], R.out, by unfold isDig; rw [Q.out]; omega⟩)))
        have p : decide ((Y : Int) < 48) = false := by simp; omega
        have q2 : decide ((57 : Int) < (Y : Int)) = true := by simp; omega
        go_wp2_with fail;go_ret;exact ⟨_, rfl, congrArg (Value.int .i64) (show (2 : Int) = eNm _ by rw [X.out]; rfl), rfl⟩
       ·have p : decide ((Y : Int) < 48) = false := by simp; omega
        have q2 : decide ((57 : Int) < (Y : Int)) = false := by simp; omega
        have g : Hid (∀ c ∈ t.take (k + 1), isDig c) := by
         unfold Hid; rw [G.out];intro c S;rcases List.mem_append.1 S with S | S
         ·exact B.out c S
         ·simp only [List.mem_cons, List.not_mem_nil, or_false] at S
          rw [S]; unfold isDig; rw [Q.out]; exact h
        go_wp2_with fail
        go_round
        case rel => exact ⟨k + 1, by omega, by go_num, g⟩
        case measure => simp [RowKit.intOf]; omega
      ·have X : Hid (rII s.data.toList = true) := by
        have z := B.out;rw [List.take_of_length_le (by rw [<- V.out]; exact D)] at z;exact M.out (by rw [<- List.length_pos_iff, <- V.out]; exact H) (by rw [<- V.out]; exact L) d.out z
       go_wp2_with fail;go_ret;exact ⟨_, rfl, congrArg (Value.int .i64) (show (0 : Int) = eNm _ by rw [X.out]; rfl), rfl⟩
    ·have X : Hid (rII s.data.toList = false) := Z.out (.inr (.inr (.inl ⟨by rw [i.out]; exact congrArg some (UInt8.toNat_inj.1 (by rw [E]; rfl)), .inr rfl⟩)))
     go_wp2_with fail;go_ret;exact ⟨_, rfl, congrArg (Value.int .i64) (show (2 : Int) = eNm _ by rw [X.out]; rfl), rfl⟩
   ·have tz : ((c0 : Int) == 48) = false := by rw [beq_eq_false_iff_ne]; omega
    have d : Hid (t.head? = some 48 -> t.length <= 1 /\ m = false) := fun h => by
     rw [i.out] at h;injection h with h
     exact absurd (by rw [<- j.out, h]; rfl) N
    clear U;go_wp2_with fail;go_loop [33] (fun t33 => ∃ k : Nat, k <= T.size /\ t33 = .int .i64 k /\ Hid (∀ c ∈ t.take k, isDig c)) (fun t33 => T.size - (RowKit.intOf t33).toNat)
    case atStart => exact ⟨0, Nat.zero_le _, rfl, by intro c S; simp at S⟩
    case round =>
     obtain ⟨k, hk, rfl, B⟩ := hrel;rcases Nat.lt_or_ge k T.size with C | D
     ·obtain ⟨Y, K⟩ : ∃ Y : Nat, T[k].toNat = Y := ⟨_, rfl⟩
      have Q := hid K;have x : Y < 256 := by rw [<- K]; exact UInt8.toNat_lt _
      have G : Hid (t.take (k + 1) = t.take k ++ [T[k]]) := by
       unfold Hid;have A : k < t.length := by rw [<- V.out]; exact C
       rw [List.take_succ_eq_append_getElem A];congr 2;have : T.data.toList[k]'(by rw [O.out]; exact A) = t[k] := by simp only [O.out]
       rw [<- this]; rfl
      have R : Hid (T[k] ∈ t) := by
       have a : T[k] ∈ t.take (k + 1) := by rw [G.out]; simp
       exact List.mem_of_mem_take a
      rcases (by omega : Y < 48 \/ 57 < Y \/ (48 <= Y /\ Y <= 57)) with h | h | h
      ·have X : Hid (rII s.data.toList = false) := Z.out (.inr (.inr (.inr ⟨T[k], R.out, by unfold isDig; rw [Q.out]; omega⟩)))
       have p : decide ((Y : Int) < 48) = true := by simp; omega
       go_wp2_with fail;go_ret;exact ⟨_, rfl, congrArg (Value.int .i64) (show (2 : Int) = eNm _ by rw [X.out]; rfl), rfl⟩
      ·have X : Hid (rII s.data.toList = false) := Z.out (.inr (.inr (.inr ⟨T[k], R.out, by unfold isDig; rw [Q.out]; omega⟩)))
       have p : decide ((Y : Int) < 48) = false := by simp; omega
       have q2 : decide ((57 : Int) < (Y : Int)) = true := by simp; omega
       go_wp2_with fail;go_ret;exact ⟨_, rfl, congrArg (Value.int .i64) (show (2 : Int) = eNm _ by rw [X.out]; rfl), rfl⟩
      ·have p : decide ((Y : Int) < 48) = false := by simp; omega
       have q2 : decide ((57 : Int) < (Y : Int)) = false := by simp; omega
       have g : Hid (∀ c ∈ t.take (k + 1), isDig c) := by
        unfold Hid; rw [G.out];intro c S;rcases List.mem_append.1 S with S | S
        ·exact B.out c S
        ·simp only [List.mem_cons, List.not_mem_nil, or_false] at S
         rw [S]; unfold isDig; rw [Q.out]; exact h
       go_wp2_with fail
       go_round
       case rel => exact ⟨k + 1, by omega, by go_num, g⟩
       case measure => simp [RowKit.intOf]; omega
     ·have X : Hid (rII s.data.toList = true) := by
       have z := B.out;rw [List.take_of_length_le (by rw [<- V.out]; exact D)] at z;exact M.out (by rw [<- List.length_pos_iff, <- V.out]; exact H) (by rw [<- V.out]; exact L) d.out z
      go_wp2_with fail;go_ret;exact ⟨_, rfl, congrArg (Value.int .i64) (show (0 : Int) = eNm _ by rw [X.out]; rfl), rfl⟩
end Go.Proofs.YtmcbeajdloaliaaGreatDoor
