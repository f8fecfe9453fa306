import Derived.Test.YtlodicfimpgibaaGreatDoorZI1
/- Klipperef01: its exported functions. -/
set_option maxHeartbeats 2000000
set_option maxRecDepth 100000
namespace Go.Proofs.YtlodicfimpgibaaGreatDoor
open Go.RowKit Go.Lib
theorem tup2 {a b : Bool} {s t : ByteArray} (Z : a = b) (Y : s = t) : Value.tuple #[.bool a, .string s] = Value.tuple #[.bool b, .string t] := by rw [Z, Y]
theorem hN0 (s : ByteArray) (h : 0 < s.size) : hasPrefix s.data.toList [45] = decide (s[0].toNat = 45) := by
 have e : s.data.toList = s[0] :: s.data.toList.tail := by
  have Z : 0 < s.data.toList.length := by rw [Array.length_toList]; exact h
  conv => lhs; rw [<- List.cons_head_tail (List.ne_nil_of_length_pos Z)]
  congr 1;rw [List.head_eq_getElem]; rfl
 rw [e];unfold hasPrefix;simp only [List.isPrefixOf, Bool.and_true];by_cases hc : s[0].toNat = 45
 ·have : s[0] = 45 := UInt8.toNat_inj.1 (by rw [hc]; rfl)
  simp [this]
 ·have : ¬ (45 : UInt8) = s[0] := fun h => hc (by rw [<- h]; rfl)
  simp [hc, this]
theorem sr0 (s : ByteArray) (M : s.size <= 1000000000000) (w : World) :
 Calls Tryz.prog 174 #[.string s] w (Drawn (fun v => v = .tuple #[.bool (hasPrefix s.data.toList [45]), .string (BS (trimPrefix s.data.toList [45]))]) w) := by
 rcases Nat.eq_zero_or_pos s.size with R | X
 ·have Z : s.data.toList = [] := List.length_eq_zero_iff.1 (by rw [Array.length_toList]; exact R)
  have Y : Hid (s = BS (trimPrefix s.data.toList [45]) /\ hasPrefix s.data.toList [45] = false) := by
   unfold Hid;rw [Z];exact ⟨bet (by rw [Z]; rfl), rfl⟩
  have Q : ¬ 0 < s.size := by omega
  have N : s.size <= 0 := by omega
  clear Z R;go_enter Tryz.func174, Tryz.ntmps174;go_wp2_with fail;go_ret2;exact ⟨_, rfl, tup2 Y.out.2.symm Y.out.1, dzo _⟩
 ·have S := hN0 s X
  obtain ⟨c0, U⟩ : ∃ c0 : Nat, s[0].toNat = c0 := ⟨_, rfl⟩;by_cases h45 : c0 = 45
  ·have Y : Hid (s.extract 1 s.size = BS (trimPrefix s.data.toList [45]) /\ hasPrefix s.data.toList [45] = true) := by
    unfold Hid;have V : hasPrefix s.data.toList [45] = true := by rw [S, U]; exact decide_eq_true h45
    refine ⟨?_, V⟩;apply bet;rw [extract_to_end, Blt];unfold trimPrefix;rw [if_pos V]; rfl
   have O : ((c0 : Int) == 45) = true := by rw [beq_iff_eq]; omega
   have Q : 1 <= s.size := X;clear S h45;go_enter Tryz.func174, Tryz.ntmps174;go_wp2_with fail;go_region;go_wp2_with fail;go_ret2;exact ⟨_, rfl, tup2 Y.out.2.symm Y.out.1, dsp ⟨0, rfl⟩ 1⟩
  ·have Y : Hid (s = BS (trimPrefix s.data.toList [45]) /\ hasPrefix s.data.toList [45] = false) := by
    unfold Hid;have V : hasPrefix s.data.toList [45] = false := by rw [S, U]; exact decide_eq_false h45
    refine ⟨?_, V⟩;apply bet;rw [Blt];unfold trimPrefix;rw [if_neg (by rw [V]; simp)]
   have O : ((c0 : Int) == 45) = false := by rw [beq_eq_false_iff_ne]; omega
   clear S h45;go_enter Tryz.func174, Tryz.ntmps174;go_wp2_with fail;go_ret2;exact ⟨_, rfl, tup2 Y.out.2.symm Y.out.1, dzo _⟩
theorem sIa (n : Int) (Y : (IS n).size <= 100000) (w : World) :
 Calls Tryz.prog 174 #[.string (IS n)] w (Drawn (fun v => v = .tuple #[.bool (decide (n < 0)), .string (BS (decDigits n.natAbs))]) w) := by
 refine (sr0 (IS n) (by omega) w).mono ?_;rintro e w' ⟨_, rfl, rfl, Z⟩;exact ⟨_, rfl, by rw [tIS, pIS], Z⟩
theorem oRa (n : Int) (Z : -9223372036854775808 <= n) (Y : n <= 9223372036854775807) (w : World) (V : Good w) :
 Calls Tryz.prog 102 #[.int .i64 n] w (Ret (fun v _ => v = .string (IS n)) w) := by
 go_enter Tryz.func102, Tryz.ntmps102;go_wp2_with fail;refine (iay n Z Y w V).mono ?_;rintro e w' ⟨_, rfl, rfl, X⟩;go_wp2_with fail;go_ret;exact ⟨_, rfl, rfl, X⟩
theorem sk0 (n : Int) (Z : (IS n).size <= 100000) (w : World) :
 Calls Tryz.prog 141 #[.string (IS n)] w (Drawn (fun v => v = .int .i64 n.sign) w) := by
 have X := Ie4 n;rcases Int.lt_trichotomy n 0 with h | h | h
 ·have V : Hid (n.sign = -1) := Int.sign_eq_neg_one_of_neg h
  have Y : Hid (decide (n < 0) = true) := decide_eq_true h;clear X;go_enter Tryz.func141, Tryz.ntmps141;go_wp2_with fail;refine (sIa n Z _).mono ?_;rintro e U ⟨_, rfl, rfl, j, rfl⟩;rw [Y.out];go_wp2_with fail;go_ret;exact ⟨_, rfl, congrArg (Value.int .i64) V.out.symm, j, rfl⟩
 ·subst h
  rw [decide_eq_true rfl] at X;have Y : Hid (decide ((0 : Int) < 0) = false) := rfl;go_enter Tryz.func141, Tryz.ntmps141;go_wp2_with fail;refine (sIa 0 Z _).mono ?_;rintro e U ⟨_, rfl, rfl, j, rfl⟩;rw [Y.out];go_wp2_with fail;go_ret;exact ⟨_, rfl, rfl, j, rfl⟩
 ·have V : Hid (n.sign = 1) := Int.sign_eq_one_of_pos h
  have Y : Hid (decide (n < 0) = false) := decide_eq_false (by omega);rw [decide_eq_false (by omega)] at X;go_enter Tryz.func141, Tryz.ntmps141;go_wp2_with fail;refine (sIa n Z _).mono ?_;rintro e U ⟨_, rfl, rfl, j, rfl⟩;rw [Y.out];go_wp2_with fail;go_ret;exact ⟨_, rfl, congrArg (Value.int .i64) V.out.symm, j, rfl⟩
theorem nRa (n : Int) (Z : (IS n).size <= 100000) (w : World) :
 Calls Tryz.prog 142 #[.string (IS n)] w (Drawn (fun v => v = .string (IS (-n))) w) := by
 have X := Ie4 n;have V : Hid (BS (decDigits n.natAbs) = IS (n.natAbs : Int)) := by unfold Hid IS; rw [ib0]; rfl
 rcases Int.lt_trichotomy n 0 with h | h | h
 ·have U : Hid (BS (decDigits n.natAbs) = IS (-n)) := by unfold Hid; rw [V.out]; congr 1; omega
  have Y : Hid (decide (n < 0) = true) := decide_eq_true h;clear X;go_enter Tryz.func142, Tryz.ntmps142;go_wp2_with fail;refine (sIa n Z _).mono ?_;rintro e S ⟨_, rfl, rfl, j, rfl⟩;rw [Y.out, U.out];go_wp2_with fail;go_ret;exact ⟨_, rfl, rfl, j, rfl⟩
 ·subst h
  rw [decide_eq_true rfl] at X;have Y : Hid (decide ((0 : Int) < 0) = false) := rfl;go_enter Tryz.func142, Tryz.ntmps142;go_wp2_with fail;refine (sIa 0 Z _).mono ?_;rintro e S ⟨_, rfl, rfl, j, rfl⟩;rw [Y.out, V.out];go_wp2_with fail;go_ret;exact ⟨_, rfl, rfl, j, rfl⟩
 ·have Y : Hid (decide (n < 0) = false) := decide_eq_false (by omega)
  rw [decide_eq_false (by omega)] at X;have U : Hid (BS (decDigits n.natAbs) = IS n) := by unfold Hid; rw [V.out]; congr 1; omega
  have R : Hid ((⟨#[45]⟩ : ByteArray) ++ IS n = IS (-n)) := by
   unfold Hid;apply bet; rw [ba0, Ilt, Ilt, <- icn h]; rfl
  go_enter Tryz.func142, Tryz.ntmps142;go_wp2_with fail;refine (sIa n Z _).mono ?_;rintro e S ⟨_, rfl, rfl, j, rfl⟩;rw [Y.out, U.out];go_wp2_with fail;go_ret;exact ⟨_, rfl, congrArg Value.string R.out, j, rfl⟩
theorem aRa (n : Int) (Z : (IS n).size <= 100000) (w : World) :
 Calls Tryz.prog 175 #[.string (IS n)] w (Drawn (fun v => v = .string (IS (n.natAbs : Int))) w) := by
 have Y : Hid (BS (decDigits n.natAbs) = IS (n.natAbs : Int)) := by unfold Hid IS; rw [ib0]; rfl
 go_enter Tryz.func175, Tryz.ntmps175;go_wp2_with fail;refine (sIa n Z _).mono ?_;rintro e X ⟨_, rfl, rfl, j, rfl⟩;rw [Y.out];go_wp2_with fail;go_ret;exact ⟨_, rfl, rfl, j, rfl⟩
theorem dlm {n : Nat} {k : Nat} (Z : 0 < k) (h : (decDigits n).length <= k) : n < 10 ^ k := (lb0 n k Z).1 h
theorem tup2i {a b : Int} {s t : Bool} (Z : a = b) (Y : s = t) : Value.tuple #[.int .i64 a, .bool s] = Value.tuple #[.int .i64 b, .bool t] := by rw [Z, Y]
theorem sRa (n : Int) (D : (decDigits n.natAbs).length <= 18) (w : World) :
 Calls Tryz.prog 205 #[.string (IS n)] w (Drawn (fun v => v = .tuple #[.int .i64 n, .bool true]) w) := by
 have x : (IS n).size <= 100000 := by
  have := iln n;rw [Ise]; rw [decDigits_length] at D; split at this <;> omega
 have s : n.natAbs < 1000000000000000000 := dlm (k := 18) (by decide) D;obtain ⟨l, Y⟩ := zex (decDigits n.natAbs);obtain ⟨S, E⟩ := zex (BS (decDigits n.natAbs));have N : S.data.toList = l := by rw [E, Blt, Y]
 have K : S.size = l.length := by rw [E, Bse, Y]
 have V : ∀ c ∈ S.data.toList, isDig c := by rw [N, Y]; exact dDd _
 have O : dsl S 0 S.size = n.natAbs := by
  unfold dsl;rw [List.drop_zero, List.take_of_length_le (by rw [Array.length_toList]; exact Nat.le_refl _), N, Y, ddD]
 have t : S.size <= 18 := by rw [K, Y]; exact D
 have R : Hid (∀ j, j <= 17 -> dsl S 0 j < 100000000000000000) := by
  intro j d;unfold dsl;rw [List.drop_zero];refine Nat.lt_of_lt_of_le (dlt _ fun c hc => V c (List.mem_of_mem_take hc)) ?_;show 10 ^ _ <= 10 ^ 17;refine Nat.pow_le_pow_right (by decide) ?_;rw [List.length_take]; omega
 have M := hid V;have L := hid O;have o := hid E;clear V O E N K Y D;obtain ⟨neg, Q⟩ := zex (decide (n < 0));have X := hid Q;clear Q;go_enter Tryz.func205, Tryz.ntmps205;go_wp2_with fail;refine (sIa n x _).mono ?_;rintro e w1 ⟨_, rfl, rfl, p, rfl⟩;rw [<- o.out, <- X.out];go_wp2_with fail;go_loop [6, 7] (fun t6 t7 => ∃ (k : Nat) (Z : Int), k <= S.size /\ t7 = .int .i64 k /\ t6 = .int .i64 Z /\ Hid (Z = -((dsl S 0 k : Nat) : Int)) /\ -1000000000000000000 < Z /\ Z <= 0) (fun _ t7 => S.size - (RowKit.intOf t7).toNat)
 case atStart => exact ⟨0, 0, Nat.zero_le _, rfl, rfl, by unfold Hid; rw [dsf]; rfl, by omega, by omega⟩
 case round =>
  obtain ⟨k, Z, b, rfl, rfl, B, i, h⟩ := hrel;rcases Nat.lt_or_ge k S.size with I | m
  ·have A := dat S M.out k I
   have H : Hid (dsl S 0 (k + 1) = 10 * dsl S 0 k + (S[k].toNat - 48)) := dc0 S 0 k I (Nat.zero_le _);obtain ⟨U, J⟩ : ∃ U : Nat, S[k].toNat = U := ⟨_, rfl⟩;have C := hid J;rw [J] at A;have g : -100000000000000000 < Z := by
    have := R.out k (by omega);rw [B.out]; omega
   have hx : Hid (10 * Z - ((U : Int) - 48) = -((dsl S 0 (k + 1) : Nat) : Int)) := by
    unfold Hid; rw [H.out, B.out, C.out]; omega
   have G : -1000000000000000000 < 10 * Z - ((U : Int) - 48) /\ 10 * Z - ((U : Int) - 48) <= 0 := by omega
   have a : decide (Z < (-9223372036854775808 + ((U : Int) - 48)).tdiv 10) = false := by
    have : (-9223372036854775808 + ((U : Int) - 48)).tdiv 10 <= -900000000000000000 := by
     obtain ⟨y, hy, f⟩ : ∃ y : Int, -9223372036854775808 + ((U : Int) - 48) = -y /\ 9200000000000000000 <= y := ⟨9223372036854775808 - ((U : Int) - 48), by omega, by omega⟩;rw [hy, Int.neg_tdiv, Int.tdiv_eq_ediv_of_nonneg (by omega)];omega
    simp; omega
   clear H;go_wp2_with fail
   go_round
   case rel => exact ⟨k + 1, _, by omega, by go_num, rfl, hx, G.1, G.2⟩
   case measure => simp [RowKit.intOf]; omega
  ·have q : Hid (Z = -((n.natAbs : Nat) : Int)) := by
    have : k = S.size := by omega
    unfold Hid; rw [B.out, this, L.out]
   have r : (Z == -9223372036854775808) = false := by rw [beq_eq_false_iff_ne]; omega
   cases neg
   ·have z : Hid (-Z = n) := by
     have := of_decide_eq_false X.out.symm;unfold Hid; rw [q.out]; omega
    go_wp2_with fail;go_ret2;exact ⟨_, rfl, tup2i z.out rfl, p, rfl⟩
   ·have z : Hid (Z = n) := by
     have := of_decide_eq_true X.out.symm;unfold Hid; rw [q.out]; omega
    go_wp2_with fail;go_ret2;exact ⟨_, rfl, tup2i z.out rfl, p, rfl⟩
theorem bRa (n : Int) (Y : (IS n).size <= 100000) (w : World) :
 Calls Tryz.prog 176 #[.string (IS n)] w (Drawn (fun v => ∃ x one, v = .tuple #[.int .i64 x, .bool one] /\ (one = true -> x = n /\ -100000000000000000 < n /\ n < 100000000000000000)) w) := by
 obtain ⟨S, V⟩ := zex (BS (decDigits n.natAbs));have Z : S.size = (decDigits n.natAbs).length := by rw [V, Bse]
 have X := hid Z;have U := hid V;have M : S.size <= 100000 := by
  have := iln n;rw [Ise] at Y;rw [Z, decDigits_length]; split at this <;> omega
 clear V Z;rcases Nat.lt_or_ge 17 S.size with h | h
 ·go_enter Tryz.func176, Tryz.ntmps176
  go_wp2_with fail;refine (sIa n Y _).mono ?_;rintro e L ⟨_, rfl, rfl, O, rfl⟩;rw [<- U.out];go_wp2_with fail;go_ret2;exact ⟨_, rfl, ⟨_, _, rfl, fun h => by cases h⟩, O, rfl⟩
 ·have R : (decDigits n.natAbs).length <= 18 := by rw [<- X.out]; omega
  have Q : n.natAbs < 100000000000000000 := dlm (k := 17) (by decide) (by rw [<- X.out]; exact h);have N := hid R;clear R;go_enter Tryz.func176, Tryz.ntmps176;go_wp2_with fail;refine (sIa n Y _).mono ?_;rintro e L ⟨_, rfl, rfl, O, rfl⟩;rw [<- U.out];go_wp2_with fail;refine (sRa n N.out _).mono ?_;rintro e J ⟨_, rfl, rfl, K, rfl⟩;go_wp2_with fail;go_ret2;exact ⟨_, rfl, ⟨_, _, rfl, fun _ => ⟨rfl, by omega, by omega⟩⟩, _, rfl⟩
theorem lm0 {n : Int} {k : Nat} (Y : 0 < k) (h : (IS n).size <= k) : (lm B4 n.natAbs).length <= k := by
 rw [Ise] at h;have Z := nAl Y h;refine la0 B4 _ _ ta0 (Nat.lt_of_lt_of_le Z ?_);exact Nat.pow_le_pow_left (by decide) _
theorem l4l {n : Int} (h : (IS n).size <= 100000) : (lm B4 n.natAbs).length <= 100000 := lm0 (by decide) h
theorem dse {n : Int} (h : (IS n).size <= 100000) : (BS (decDigits n.natAbs)).size <= 100000 := by
 have := iln n;rw [Ise] at h;rw [Bse, decDigits_length]; split at this <;> omega
theorem tIa (k : Nat) (Z : (BS (decDigits k)).size <= 3000000) (w : World) :
 Calls Tryz.prog 178 #[.string (BS (decDigits k))] w (Ret (fun v w' => Rd .i64 w' v (lm B4 k)) w) := by
 have h := te0 w (BS (decDigits k)) (by rw [Blt]; exact dDd k) Z;rw [Blt, ddD] at h;exact h.mono fun _ _ ⟨v, he, hv, hb⟩ => ⟨v, he, hv.1, hb⟩
theorem mIa (w : World) (m : Bool) (v : Value) (n : Nat) (h : Rd .i64 w v (lm B4 n)) (Z : (lm B4 n).length <= 3000000) (Y : Good w) :
 Calls Tryz.prog 180 #[.bool m, v] w (Ret (fun r _ => r = .string (IS (sgn m n))) w) := by
 have h := mh0 w m v (lm B4 n) (lm_lt B4 n ta0) h Z Y;rwa [llm B4 n ta0] at h
theorem l4a {a b n : Nat} (Z : (lm B4 a).length <= n) (Y : (lm B4 b).length <= n) : (lm B4 (a + b)).length <= n + 1 := by
 refine la0 B4 _ _ ta0 ?_;have X := Nat.lt_of_lt_of_le (lll B4 a ta0) (Nat.pow_le_pow_right (show 0 < B4 by decide) Z);have V := Nat.lt_of_lt_of_le (lll B4 b ta0) (Nat.pow_le_pow_right (show 0 < B4 by decide) Y);have U : 2 * B4 ^ n <= B4 * B4 ^ n := Nat.mul_le_mul_right _ (by decide);rw [Nat.pow_succ, Nat.mul_comm];omega
theorem l4m {a b n : Nat} (h : a <= b) (Z : (lm B4 b).length <= n) : (lm B4 a).length <= n :=
 Nat.le_trans (la0 B4 _ _ ta0 (Nat.lt_of_le_of_lt h (lll B4 b ta0))) Z
theorem ad0 (a b : Int) (E : (IS a).size <= 100000) (D : (IS b).size <= 100000) (w : World) (hg : Good w) :
 Calls Tryz.prog 169 #[.string (IS a), .string (IS b)] w (Ret (fun v _ => v = .string (IS (a + b))) w) := by
 have g := l4l E;have f := l4l D;have ha := dse E;have hb := dse D;go_enter Tryz.func169, Tryz.ntmps169;go_wp2_with fail;refine ((bRa a E _).mono fun _ _ h => h.ret).mono ?_;rintro e w1 ⟨_, rfl, ⟨x, one, rfl, hx⟩, o⟩;go_wp2_with fail;refine ((bRa b D _).mono fun _ _ h => h.ret).mono ?_;rintro e w2 ⟨_, rfl, ⟨y, s, rfl, hy⟩, n⟩;have G : Below w.heap.size w w2 := zbt o n;clear o n;rcases (by cases one <;> cases s <;> simp : (one = true /\ s = true) \/ (one = false) \/ (one = true /\ s = false)) with ⟨S, R⟩ | S | ⟨S, R⟩
 ·obtain ⟨rfl, k1⟩ := hx S
  obtain ⟨rfl, k2⟩ := hy R;subst S;subst R;go_wp2_with fail;refine (oRa (x + y) (by omega) (by omega) _ (hg.below G)).mono ?_;rintro e w3 ⟨_, rfl, rfl, Z⟩;go_wp2_with fail;go_ret;exact ⟨_, rfl, rfl, (zbt G Z)⟩
 case' inr.inl =>
  subst S
 case' inr.inr =>
  subst S;subst R
 all_goals
  clear hx hy;obtain ⟨O, c⟩ := zex (decide (a < 0));obtain ⟨r, h0⟩ := zex (decide (b < 0));have I := hid c;have H := hid h0;clear c h0;go_wp2_with fail;refine ((sIa a E _).mono fun _ _ h => h.ret).mono ?_;rintro e w3 ⟨_, rfl, rfl, Z⟩;have m := zbt G Z;clear G Z;rw [<- I.out];go_wp2_with fail;refine ((sIa b D _).mono fun _ _ h => h.ret).mono ?_;rintro e w4 ⟨_, rfl, rfl, Z⟩;have l := zbt m Z;clear m Z;rw [<- H.out];go_wp2_with fail;refine (tIa a.natAbs (by omega) _).mono ?_;rintro e w5 ⟨va, rfl, z, Z⟩;have k := zbt l Z;clear l Z;obtain ⟨pa, ca, rfl, h8, h6, h4⟩ := z.open;clear h4;go_wp2_with fail;refine (tIa b.natAbs (by omega) _).mono ?_;rintro e w6 ⟨vb, rfl, t, Z⟩;have Q := zbt k Z;obtain ⟨pb, cb, rfl, h9, h7, h5⟩ := t.open;have N := hid (RdC.below z Z);have M := hid t;clear k Z z t h5;have B := hg.below Q;by_cases hab : O = r
  ·subst hab
   have t1 : (O == O) = true := by simp
   have p : Hid (sgn O (a.natAbs + b.natAbs) = a + b) := by
    unfold Hid sgn;have S := I.out;have R := H.out;cases O
    ·have := of_decide_eq_false S.symm
     have := of_decide_eq_false R.symm;simp; omega
    ·have := of_decide_eq_true S.symm
     have := of_decide_eq_true R.symm;simp; omega
   have K : (lm B4 (a.natAbs + b.natAbs)).length <= 3000000 := by have := l4a g f; omega
   go_wp2_with fail;refine (j4a _ _ _ a.natAbs b.natAbs (a.natAbs + b.natAbs) 1 N.out M.out (by omega) (by omega) (by omega) (by omega)).mono ?_;rintro e w7 ⟨v7, rfl, ⟨U, _⟩, Y⟩;obtain ⟨p7, c7, rfl, j, d, J⟩ := U.open;clear J;go_wp2_with fail;refine (mIa _ O _ (a.natAbs + b.natAbs) U K (B.below Y)).mono ?_;rintro e w8 ⟨_, rfl, rfl, X⟩;rw [p.out];go_wp2_with fail;go_ret;exact ⟨_, rfl, rfl, Q.trans (((zbt Y X)).mono Q.size)⟩
  ·have t1 : (O == r) = false := by simpa using hab
   have h3 : r = !O := by cases O <;> cases r <;> simp at hab <;> rfl
   have q := hid h3;clear h3;rcases Nat.lt_or_ge a.natAbs b.natAbs with A | i
   ·have C := hid A
    have HD : Hid (decide (a.natAbs < b.natAbs) = true) := decide_eq_true A;have p : Hid (sgn r (b.natAbs - a.natAbs) = a + b) := by
     unfold Hid sgn;have S := I.out;have R := H.out;rw [q.out] at R ⊢;cases O
     ·have := of_decide_eq_false S.symm
      have := of_decide_eq_true R.symm;simp; omega
     ·have := of_decide_eq_true S.symm
      have := of_decide_eq_false R.symm;simp; omega
    have K : (lm B4 (b.natAbs - a.natAbs)).length <= 3000000 := by have := l4m (Nat.sub_le b.natAbs a.natAbs) f; omega
    clear A;go_wp2_with fail;refine ((le0 _ _ _ a.natAbs b.natAbs N.out M.out).mono fun _ _ h => h.ret).mono ?_;rintro e w7 ⟨_, rfl, rfl, Y⟩;rw [HD.out];go_wp2_with fail;refine (j4a _ _ _ b.natAbs a.natAbs (b.natAbs - a.natAbs) (-1) (RdC.below M.out Y) (RdC.below N.out Y) (by omega) (by have := C.out; omega) (by omega) (by omega)).mono ?_;rintro e w8 ⟨v7, rfl, ⟨U, _⟩, X⟩;obtain ⟨p7, c7, rfl, j, d, J⟩ := U.open;clear J;have V := zbt Y X;clear Y X;go_wp2_with fail;refine (mIa _ r _ (b.natAbs - a.natAbs) U K (B.below V)).mono ?_;rintro e w9 ⟨_, rfl, rfl, L⟩;rw [p.out];go_wp2_with fail;go_ret;exact ⟨_, rfl, rfl, Q.trans (((zbt V L)).mono Q.size)⟩
   ·have C := hid i
    have HD : Hid (decide (a.natAbs < b.natAbs) = false) := decide_eq_false (by omega);have p : Hid (sgn O (a.natAbs - b.natAbs) = a + b) := by
     unfold Hid sgn;have S := I.out;have R := H.out;rw [q.out] at R;cases O
     ·have := of_decide_eq_false S.symm
      have := of_decide_eq_true R.symm;simp; omega
     ·have := of_decide_eq_true S.symm
      have := of_decide_eq_false R.symm;simp; omega
    have K : (lm B4 (a.natAbs - b.natAbs)).length <= 3000000 := by have := l4m (Nat.sub_le a.natAbs b.natAbs) g; omega
    clear i;go_wp2_with fail;refine ((le0 _ _ _ a.natAbs b.natAbs N.out M.out).mono fun _ _ h => h.ret).mono ?_;rintro e w7 ⟨_, rfl, rfl, Y⟩;rw [HD.out];go_wp2_with fail;refine (j4a _ _ _ a.natAbs b.natAbs (a.natAbs - b.natAbs) (-1) (RdC.below N.out Y) (RdC.below M.out Y) (by omega) (by have := C.out; omega) (by omega) (by omega)).mono ?_;rintro e w8 ⟨v7, rfl, ⟨U, _⟩, X⟩;obtain ⟨p7, c7, rfl, j, d, J⟩ := U.open;clear J;have V := zbt Y X;clear Y X;go_wp2_with fail;refine (mIa _ O _ (a.natAbs - b.natAbs) U K (B.below V)).mono ?_;rintro e w9 ⟨_, rfl, rfl, L⟩;rw [p.out];go_wp2_with fail;go_ret;exact ⟨_, rfl, rfl, Q.trans (((zbt V L)).mono Q.size)⟩
theorem nse {n : Int} {k : Nat} (h : (IS n).size <= k) : (IS (-n)).size <= k + 1 := by
 have Y := iln n;have Z := iln (-n);rw [Ise] at h ⊢;rw [Int.natAbs_neg] at Z;split at Y <;> split at Z <;> omega
theorem lg0 {a b n m : Nat} (X : (lm B4 a).length <= n) (V : (lm B4 b).length <= m) : (lm B4 (a * b)).length <= n + m := by
 refine la0 B4 _ _ ta0 ?_;have Z := Nat.lt_of_lt_of_le (lll B4 a ta0) (Nat.pow_le_pow_right (show 0 < B4 by decide) X);have Y := Nat.lt_of_lt_of_le (lll B4 b ta0) (Nat.pow_le_pow_right (show 0 < B4 by decide) V);rw [Nat.pow_add];exact Nat.mul_lt_mul_of_lt_of_le Z (Nat.le_of_lt Y) (by have := Nat.pow_pos (n := m) (show 0 < B4 by decide); omega)
theorem ml1 {a b : Int} (h : (BS (decDigits a.natAbs)).size + (BS (decDigits b.natAbs)).size <= 18) : -1000000000000000000 < a * b /\ a * b < 1000000000000000000 := by
 rw [Bse, Bse] at h;have Y := dlm (n := a.natAbs) (List.length_pos_iff.2 (dDn _)) (Nat.le_refl _);have Z := dlm (n := b.natAbs) (List.length_pos_iff.2 (dDn _)) (Nat.le_refl _);have X : a.natAbs * b.natAbs < 10 ^ 18 := by
  refine Nat.lt_of_lt_of_le (Nat.mul_lt_mul_of_lt_of_le Y (Nat.le_of_lt Z) (Nat.lt_of_le_of_lt (Nat.zero_le _) Z)) ?_;rw [<- Nat.pow_add];exact Nat.pow_le_pow_right (by decide) h
 rw [<- Int.natAbs_mul] at X;have V : (10 : Nat) ^ 18 = 1000000000000000000 := by decide
 omega
theorem mb0 (a b : Int) (N : (IS a).size <= 100000) (M : (IS b).size <= 100000) (w : World) (o : Good w) :
 Calls Tryz.prog 170 #[.string (IS a), .string (IS b)] w (Ret (fun v _ => v = .string (IS (a * b))) w) := by
 have t := l4l N;have s := l4l M;have c := dse N;have h0 := dse M;obtain ⟨l, S⟩ := zex (decide (a < 0));obtain ⟨j, R⟩ := zex (decide (b < 0));have D := hid S;have C := hid R;have i : Hid (sgn (l != j) (a.natAbs * b.natAbs) = a * b) := sml S R;clear S R;go_enter Tryz.func170, Tryz.ntmps170;go_wp2_with fail;refine ((sIa a N _).mono fun _ _ h => h.ret).mono ?_;rintro e w3 ⟨_, rfl, rfl, K⟩;rw [<- D.out];go_wp2_with fail;refine ((sIa b M _).mono fun _ _ h => h.ret).mono ?_;rintro e w4 ⟨_, rfl, rfl, Z⟩;have U := zbt K Z;clear K Z;rw [<- C.out];rcases Nat.lt_or_ge 18 ((BS (decDigits a.natAbs)).size + (BS (decDigits b.natAbs)).size) with p | q
 ·go_wp2_with fail
  refine (tIa a.natAbs (by omega) _).mono ?_;rintro e w5 ⟨va, rfl, Q, Z⟩;have X := zbt U Z;clear U Z;obtain ⟨pa, ca, rfl, f, n, J⟩ := Q.open;clear J;go_wp2_with fail;refine (tIa b.natAbs (by omega) _).mono ?_;rintro e w6 ⟨vb, rfl, O, Z⟩;have Y := zbt X Z;obtain ⟨pb, cb, rfl, d, m, I⟩ := O.open;have B := hid (RdC.below Q Z);have A := hid O;clear X Z Q O I;have y := o.below Y;have x : (lm B4 (a.natAbs * b.natAbs)).length <= 3000000 := by have := lg0 t s; omega
  go_wp2_with fail;refine (t4a _ _ _ a.natAbs b.natAbs B.out A.out (by omega) (by omega)).mono ?_;rintro e w7 ⟨v7, rfl, ⟨H, _⟩, V⟩;obtain ⟨p7, c7, rfl, g, h1, r⟩ := H.open;clear r;go_wp2_with fail;refine (mIa _ (l != j) _ (a.natAbs * b.natAbs) H x (y.below V)).mono ?_;rintro e w8 ⟨_, rfl, rfl, L⟩;rw [i.out];go_wp2_with fail;go_ret;exact ⟨_, rfl, rfl, Y.trans (((zbt V L)).mono Y.size)⟩
 ·have k := ml1 q
  have pa : 0 < (BS (decDigits a.natAbs)).size := by rw [Bse]; exact List.length_pos_iff.2 (dDn _)
  have pb : 0 < (BS (decDigits b.natAbs)).size := by rw [Bse]; exact List.length_pos_iff.2 (dDn _)
  have G : Hid ((decDigits a.natAbs).length <= 18) := by unfold Hid; rw [<- Bse]; omega
  have E : Hid ((decDigits b.natAbs).length <= 18) := by unfold Hid; rw [<- Bse]; omega
  go_wp2_with fail;refine ((sRa a G.out _).mono fun _ _ h => h.ret).mono ?_;rintro e w5 ⟨_, rfl, rfl, Z⟩;have X := zbt U Z;go_wp2_with fail;refine ((sRa b E.out _).mono fun _ _ h => h.ret).mono ?_;rintro e w6 ⟨_, rfl, rfl, z⟩;have Y := zbt X z;go_wp2_with fail;refine (oRa (a * b) (by omega) (by omega) _ (o.below Y)).mono ?_;rintro e w7 ⟨_, rfl, rfl, V⟩;go_wp2_with fail;go_ret;exact ⟨_, rfl, rfl, (zbt Y V)⟩
theorem tup2s {a b c d : ByteArray} (Z : a = c) (Y : b = d) : Value.tuple #[.string a, .string b] = Value.tuple #[.string c, .string d] := by rw [Z, Y]
theorem tlm {x y : Int} {M : Int} (hx : -M < x /\ x < M) : -M < x.tdiv y /\ x.tdiv y < M := by
 have h : (x.tdiv y).natAbs <= x.natAbs := by
  rw [Int.natAbs_tdiv]; exact Nat.div_le_self _ _
 omega
theorem tc0 {x y : Int} (hy : y ≠ 0) : (x.tmod y).natAbs < y.natAbs := by rw [tmod_natAbs']; exact Nat.mod_lt _ (by omega)
 where tmod_natAbs' : (x.tmod y).natAbs = x.natAbs % y.natAbs := Int.natAbs_tmod ..
theorem tg0 {x y : Int} (hy : y ≠ 0) (h : 0 <= x.tmod y) : x.tdiv y = x / y /\ x.tmod y = x % y := by
 have Y := tc0 (x := x) hy;have X := Int.mul_tdiv_add_tmod x y;rcases Int.lt_or_le 0 y with Z | V
 ·have := (Int.ediv_emod_unique (a := x) (b := y) (r := x.tmod y) (q := x.tdiv y) Z).2 ⟨by omega, h, by omega⟩
  exact ⟨this.1.symm, this.2.symm⟩
 ·have Z : 0 < -y := by omega
  have := (Int.ediv_emod_unique (a := x) (b := -y) (r := x.tmod y) (q := -(x.tdiv y)) Z).2 ⟨by rw [Int.neg_mul_neg]; omega, h, by omega⟩;rw [Int.ediv_neg, Int.emod_neg] at this;exact ⟨by omega, this.2.symm⟩
theorem th0 {x y : Int} (hy : y ≠ 0) (h : x.tmod y < 0) : (x - (x.tmod y + max y (-y))).tdiv y = x / y /\ x.tmod y + max y (-y) = x % y := by
 have Y := tc0 (x := x) hy;have X := Int.mul_tdiv_add_tmod x y;rcases Int.lt_or_le 0 y with Z | V
 ·have e : max y (-y) = y := by omega
  rw [e];have := (Int.ediv_emod_unique (a := x) (b := y) (r := x.tmod y + y) (q := x.tdiv y - 1) Z).2 ⟨by rw [Int.mul_sub]; omega, by omega, by omega⟩;refine ⟨?_, this.2.symm⟩;rw [show x - (x.tmod y + y) = y * (x.tdiv y - 1) by rw [Int.mul_sub]; omega, Int.mul_tdiv_cancel_left _ hy];exact this.1.symm
 ·have Z : 0 < -y := by omega
  have e : max y (-y) = -y := by omega
  rw [e];have := (Int.ediv_emod_unique (a := x) (b := -y) (r := x.tmod y + -y) (q := -(x.tdiv y) - 1) Z).2 ⟨by rw [Int.mul_sub, Int.neg_mul_neg]; omega, by omega, by omega⟩;rw [Int.ediv_neg, Int.emod_neg] at this;refine ⟨?_, this.2.symm⟩;rw [show x - (x.tmod y + -y) = y * (x.tdiv y + 1) by rw [Int.mul_add]; omega, Int.mul_tdiv_cancel_left _ hy];omega
theorem dRa (a b : Int) (G : (IS a).size <= 100000) (E : (IS b).size <= 100000) (hc : b ≠ 0) (w : World) (hg : Good w) :
 Calls Tryz.prog 144 #[.string (IS a), .string (IS b)] w (Ret (fun v _ => v = .tuple #[.string (IS (a / b)), .string (IS (a % b))]) w) := by
 have hF := l4l G;have hl := l4l E;have z2 := dse G;have z3 := dse E;have S := hid hc;clear hc;go_enter Tryz.func144, Tryz.ntmps144;go_wp2_with fail;refine ((bRa a G _).mono fun _ _ h => h.ret).mono ?_;rintro e w1 ⟨_, rfl, ⟨x, one, rfl, hx⟩, hd⟩;go_wp2_with fail;refine ((bRa b E _).mono fun _ _ h => h.ret).mono ?_;rintro e w2 ⟨_, rfl, ⟨y, h5, rfl, hy⟩, hf⟩;have R : Below w.heap.size w w2 := zbt hd hf;clear hd hf;rcases (by cases one <;> cases h5 <;> simp : (one = true /\ h5 = true) \/ (one = false) \/ (one = true /\ h5 = false)) with ⟨h1, h2⟩ | h1 | ⟨h1, h2⟩
 ·obtain ⟨rfl, k1⟩ := hx h1
  obtain ⟨rfl, k2⟩ := hy h2;subst h1;subst h2;have hN : ¬ y = 0 := S.out;have z9 : (y == 0) = false := by simpa using hN
  have q1 := tlm (y := y) k1;have m1 := tc0 (x := x) S.out;have m2 : -100000000000000000 < x.tmod y /\ x.tmod y < 100000000000000000 := by omega
  rcases Int.lt_or_le (x.tmod y) 0 with Y | hH
  ·have X := hid (th0 S.out Y)
   have r1 : 0 <= x.tmod y + max y (-y) /\ x.tmod y + max y (-y) < 100000000000000000 := by omega
   have q2 : -200000000000000000 < (x - (x.tmod y + max y (-y))).tdiv y /\ (x - (x.tmod y + max y (-y))).tdiv y < 200000000000000000 := tlm (by omega);have tn : decide (x.tmod y < 0) = true := decide_eq_true Y;clear m1;go_wp2_with fail;go_quiet (fail);go_wp2_with fail;have J : Below w.heap.size w (w2.drewN nq) := R.trans ((bdN w2 nq).mono R.size);have q9 : -9223372036854775808 <= x / y /\ x / y <= 9223372036854775807 := by rw [<- X.out.1]; omega
   have r9 : -9223372036854775808 <= x % y /\ x % y <= 9223372036854775807 := by rw [<- X.out.2]; omega
   rw [X.out.1];refine (oRa (x / y) q9.1 q9.2 _ (hg.below J)).mono ?_;rintro e w3 ⟨_, rfl, rfl, Z⟩;have K := zbt J Z;go_wp2_with fail;rw [X.out.2];refine (oRa (x % y) r9.1 r9.2 _ (hg.below K)).mono ?_;rintro e w4 ⟨_, rfl, rfl, Q⟩;go_wp2_with fail;go_ret2;exact ⟨_, rfl, rfl, (zbt K Q)⟩
  ·have X := hid (tg0 S.out hH)
   have tn : decide (x.tmod y < 0) = false := decide_eq_false (by omega);clear m1;go_wp2_with fail;go_quiet (fail);go_wp2_with fail;have J : Below w.heap.size w (w2.drewN nq) := R.trans ((bdN w2 nq).mono R.size);have q9 : -9223372036854775808 <= x / y /\ x / y <= 9223372036854775807 := by rw [<- X.out.1]; omega
   have r9 : -9223372036854775808 <= x % y /\ x % y <= 9223372036854775807 := by rw [<- X.out.2]; omega
   rw [X.out.1];refine (oRa (x / y) q9.1 q9.2 _ (hg.below J)).mono ?_;rintro e w3 ⟨_, rfl, rfl, Z⟩;have K := zbt J Z;go_wp2_with fail;rw [X.out.2];refine (oRa (x % y) r9.1 r9.2 _ (hg.below K)).mono ?_;rintro e w4 ⟨_, rfl, rfl, Q⟩;go_wp2_with fail;go_ret2;exact ⟨_, rfl, rfl, (zbt K Q)⟩
 case' inr.inl =>
  subst h1
 case' inr.inr =>
  subst h1;subst h2
 all_goals
  clear hx hy;obtain ⟨ma, n⟩ := zex (decide (a < 0));obtain ⟨o, l⟩ := zex (decide (b < 0));have hA := hid n;have hB := hid l;have h7 : Hid (0 < b.natAbs) := by have := S.out; unfold Hid; omega
  have h8 : Hid (∀ d m : Nat, (d = if ma = true /\ 0 < a.natAbs % b.natAbs then a.natAbs / b.natAbs + 1 else a.natAbs / b.natAbs) -> (m = if ma = true /\ 0 < a.natAbs % b.natAbs then b.natAbs - a.natAbs % b.natAbs else a.natAbs % b.natAbs) ->
   (if (ma != o) then -(d : Int) else (d : Int)) = a / b /\ (m : Int) = a % b) := fun d m h3 h4 => deq S.out n l h3 h4
  have z : a.natAbs % b.natAbs < b.natAbs := Nat.mod_lt _ h7.out;clear n l;go_wp2_with fail;refine ((sIa a G _).mono fun _ _ h => h.ret).mono ?_;rintro e w3 ⟨_, rfl, rfl, Z⟩;have Q := zbt R Z;clear R Z;rw [<- hA.out];go_wp2_with fail;refine ((sIa b E _).mono fun _ _ h => h.ret).mono ?_;rintro e w4 ⟨_, rfl, rfl, Z⟩;have hh := zbt Q Z;clear Q Z;rw [<- hB.out];go_wp2_with fail;refine (tIa a.natAbs (by omega) _).mono ?_;rintro e w5 ⟨va, rfl, g, Z⟩;have hi := zbt hh Z;clear hh Z;obtain ⟨pa, ca, rfl, hY, hR, hp⟩ := g.open;clear hp;go_wp2_with fail;refine (tIa b.natAbs (by omega) _).mono ?_;rintro e w6 ⟨vb, rfl, f, Z⟩;have hj := zbt hi Z;obtain ⟨pb, cb, rfl, hZ, hS, hs⟩ := f.open;have ha := hid (RdC.below g Z);have hb := hid f;clear hi Z g f hs;go_wp2_with fail;refine (pi0 _ _ _ a.natAbs b.natAbs ha.out hb.out h7.out (by omega) (by omega)).mono ?_;rintro e w7 ⟨_, rfl, ⟨vq, vr, rfl, hq, hr⟩, O⟩;have I := zbt hj O;generalize ht : a.natAbs % b.natAbs = r at *;generalize k : a.natAbs / b.natAbs = q at *;have hG : (lm B4 q).length <= 100000 := by
   rw [<- k]; exact l4m (Nat.div_le_self _ _) hF
  have z4 : (lm B4 r).length <= 100000 := l4m (Nat.le_of_lt z) hl;have hU := hid ht;have hT := hid k;obtain ⟨pq, cq, rfl, z0, z7, hJ⟩ := hq.open;obtain ⟨pr, cr, rfl, z1, z8, hK⟩ := hr.open;have HQ := hid hq;have HR := hid hr;clear hq hr hJ hK hj O ht k ha hb;have H := hg.below I;obtain ⟨mm, V⟩ := zex ((ma != o));by_cases Y : ma = true /\ 0 < r
  ·obtain ⟨rfl, j⟩ := Y
   have hC : 0 < (lm B4 r).length := List.length_pos_iff.2 (lnn B4 r ta0 j);have X : Hid (sgn mm (q + 1) = a / b /\ ((b.natAbs - r : Nat) : Int) = a % b) := by
    rw [V]; exact h8.out (q + 1) (b.natAbs - r) (by simp [j]) (by simp [j])
   have HM : Hid (mm = !o) := by unfold Hid; rw [V]; cases o <;> rfl
   have t : Rd .i64 (w7.alloc (.cells #[.int .i64 1] 3)) (.slice (some ⟨w7.heap.size, 0, none⟩) 1 1) (lm B4 1) := by
    have e : lm B4 1 = [1] := by
     rw [lps B4 1 ta0 (by decide), show 1 / B4 = 0 from rfl, lzo]; rfl
    rw [e];refine ⟨_, _, rfl, Nat.le_refl _, by unfold maxLen; omega, rfl, fun _ => ⟨w7.heap.size, 0, rfl, fun i x hx => ?_⟩⟩;cases i with
    | zero => simp at hx; rw [World.cell?_alloc_at _ _ _ _ rfl, <- hx]; rfl
    | succ i => simp at hx
   have h9 := hid t;have l1 : (lm B4 1).length <= 1000000 := by
    have := la0 B4 1 1 ta0 (by decide); omega
   have hm : (lm B4 (q + 1)).length <= 3000000 := by
    have := l4a hG (show (lm B4 1).length <= 100000 by have := la0 B4 1 1 ta0 (by decide); omega); omega
   have hn : (lm B4 (b.natAbs - r)).length <= 3000000 := by have := l4m (Nat.sub_le b.natAbs r) hl; omega
   have hk : Below w7.heap.size w7 (w7.alloc (.cells #[.int .i64 1] 3)) := zal _ _;have h6 := hid hk;have hw := hid (Nat.le_of_lt z);clear V t hk;go_wp2_with fail;refine (j4a _ _ _ q 1 (q + 1) 1 (RdC.below HQ.out h6.out) h9.out (by omega) (by omega) (by omega) l1).mono ?_;rintro e w8 ⟨v8, rfl, ⟨c, _⟩, U⟩;obtain ⟨p8, c8, rfl, hW, z5, hL⟩ := c.open;have D := zbt h6.out U;clear hL U;go_wp2_with fail;refine (tIa b.natAbs (by omega) _).mono ?_;rintro e w9 ⟨zc, rfl, s, N⟩;obtain ⟨p9, c9, rfl, hX, z6, hM⟩ := s.open;have M := zbt D N;have hv := RdC.below c N;clear hM N D c;go_wp2_with fail;refine (j4a _ _ _ b.natAbs r (b.natAbs - r) (-1) s (RdC.below HR.out M) (by omega) (by have := hw.out; omega) (by omega) (by omega)).mono ?_;rintro e hO ⟨zb, rfl, ⟨p, _⟩, L⟩;obtain ⟨za, hV, rfl, hP, hQ, ho⟩ := p.open;have C := zbt M L;have hu := RdC.below hv L;clear ho L M hv;go_wp2_with fail;rw [<- HM.out];refine (mIa _ mm _ (q + 1) hu hm (H.below C)).mono ?_;rintro e zd ⟨_, rfl, rfl, B⟩;rw [X.out.1];have A := zbt C B;go_wp2_with fail;refine (mIa _ false _ (b.natAbs - r) (RdC.below p B) hn (H.below A)).mono ?_;rintro e ze ⟨_, rfl, rfl, he⟩;rw [show sgn false (b.natAbs - r) = a % b from X.out.2];go_wp2_with fail;go_ret2;exact ⟨_, rfl, rfl, I.trans (((zbt A he)).mono I.size)⟩
  ·have hz : ma = true -> (lm B4 r).length = 0 := fun h => by
    have : r = 0 := by
     rcases Nat.eq_zero_or_pos r with h0 | h0
     ·exact h0
     ·exact absurd ⟨h, h0⟩ Y
    rw [this, lzo]; rfl
   have X : Hid (sgn mm q = a / b /\ (r : Int) = a % b) := by
    rw [V]; exact h8.out q r (by rw [if_neg Y]) (by rw [if_neg Y])
   have hD : (lm B4 r).length <= 3000000 := by omega
   have hE : (lm B4 q).length <= 3000000 := by omega
   have HZ := hid hz;clear hz Y;cases ma
   case' true =>
    have hC : ¬ 0 < (lm B4 r).length := by have := HZ.out rfl; omega
    have HM : Hid (mm = !o) := by unfold Hid; rw [V]; cases o <;> rfl
   case' false =>
    have HM : Hid (mm = o) := by unfold Hid; rw [V]; cases o <;> rfl
   all_goals
    clear V;go_wp2_with fail;rw [<- HM.out];refine (mIa _ mm _ q HQ.out hE H).mono ?_;rintro e w9 ⟨_, rfl, rfl, O⟩;rw [X.out.1];go_wp2_with fail;refine (mIa _ false _ r (RdC.below HR.out O) hD (H.below O)).mono ?_;rintro e hO ⟨_, rfl, rfl, U⟩;rw [show sgn false r = a % b from X.out.2];go_wp2_with fail;go_ret2;exact ⟨_, rfl, rfl, I.trans (((zbt O U)).mono I.size)⟩
theorem nsm {a b k : Nat} (h : a <= b) (Y : (IS (b : Int)).size <= k) (Z : 0 < k) : (IS (a : Int)).size <= k := by
 rw [Ise, ib0] at *;rw [lb0 _ _ Z] at *;omega
theorem ase {n : Int} {k : Nat} (h : (IS n).size <= k) : (IS (n.natAbs : Int)).size <= k := by
 have Z := iln n;rw [Ise] at h;rw [Ise, ib0, decDigits_length];split at Z <;> omega
theorem gRa (a b : Int) (N : (IS a).size <= 100000) (M : (IS b).size <= 100000) (w : World) (t : Good w) :
 Calls Tryz.prog 143 #[.string (IS a), .string (IS b)] w (Ret (fun v _ => v = .string (IS (Int.gcd a b : Nat))) w) := by
 have L := hid (ase N);have K := hid (ase M);go_enter Tryz.func143, Tryz.ntmps143;go_wp2_with fail;refine ((aRa a N _).mono fun _ _ h => h.ret).mono ?_;rintro e r ⟨_, rfl, rfl, V⟩;go_wp2_with fail;refine ((aRa b M _).mono fun _ _ h => h.ret).mono ?_;rintro e q ⟨_, rfl, rfl, U⟩;have S := zbt V U;clear V U;go_wp2_with fail
 go_loopg [0, 1] b.natAbs (fun n t0 t1 wr => ∃ m : Nat, t0 = .string (IS (m : Int)) /\ t1 = .string (IS (n : Int)) /\ Hid (Nat.gcd m n = Int.gcd a b) /\ (IS (m : Int)).size <= 100000 /\ (IS (n : Int)).size <= 100000 /\ Below w.heap.size w wr)
 case atStart => exact ⟨a.natAbs, rfl, rfl, rfl, L.out, K.out, S⟩
 case round =>
  clear S;obtain ⟨m, rfl, rfl, D, H, Z, Y⟩ := hrel;have X := Ie4 (gk : Int);rcases Nat.eq_zero_or_pos gk with x | O
  ·subst x
   rw [show decide (((0 : Nat) : Int) = 0) = true from rfl] at X;have E : ((IS ((0 : Nat) : Int)).toList == [48]) = true := X;have s : ((IS 0).toList == [48]) = true := X;have y : Hid ((m : Int) = ((Int.gcd a b : Nat) : Int)) := by
    unfold Hid; rw [<- D.out, Nat.gcd_zero_right]
   clear X;go_wp2_with fail;go_ret;exact ⟨_, rfl, congrArg (fun z : Int => Value.string (IS z)) y.out, Y⟩
  ·rw [show decide ((gk : Int) = 0) = false from decide_eq_false (by omega)] at X
   have E : ((IS (gk : Int)).toList == [48]) = false := X;have Q : m % gk < gk := Nat.mod_lt _ O;have A : Hid (Nat.gcd gk (m % gk) = Int.gcd a b) := by unfold Hid; rw [gsp]; exact D.out
   have G : (IS ((m % gk : Nat) : Int)).size <= 100000 := nsm (Nat.le_of_lt Q) Z (by omega);have B : Hid ((m : Int) % (gk : Int) = ((m % gk : Nat) : Int)) := by unfold Hid; omega
   have C : Hid ((gk : Int) ≠ 0) := by unfold Hid; omega
   have I := t.below Y;clear X;go_wp2_with fail;refine (dRa (m : Int) (gk : Int) H Z C.out _ I).mono ?_;rintro e p ⟨_, rfl, rfl, J⟩;rw [B.out];have R := zbt Y J;go_wp2_with fail
   go_roundg (m % gk)
   case measure => exact Q
   case rel => exact ⟨gk, rfl, rfl, A, Z, G, R⟩
end Go.Proofs.YtlodicfimpgibaaGreatDoor
