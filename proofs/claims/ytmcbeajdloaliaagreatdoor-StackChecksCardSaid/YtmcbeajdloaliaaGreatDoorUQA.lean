import Derived.Test.YtmcbeajdloaliaaGreatDoorUI1
import Derived.Lib.IndexBytes
/- Klipperef01 Klipperef02 and rational -/
set_option maxHeartbeats 2000000
set_option maxRecDepth 100000
namespace Go.Proofs.YtmcbeajdloaliaaGreatDoor
open Go.RowKit Go.Lib
theorem tup2 {a b : Bool} {s t : ByteArray} (Z : a = b) (Y : s = t) : Value.tuple #[.bool a, .string s] = Value.tuple #[.bool b, .string t] := by rw [Z, Y]
theorem hL0 (s : ByteArray) (h : 0 < s.size) : hasPrefix s.data.toList [45] = decide (s[0].toNat = 45) := by
 have e : s.data.toList = s[0] :: s.data.toList.tail := by
  have Z : 0 < s.data.toList.length := by rw [Array.length_toList]; exact h
  conv => lhs; rw [<- List.cons_head_tail (List.ne_nil_of_length_pos Z)]
  congr 1;rw [List.head_eq_getElem]; rfl
 rw [e];unfold hasPrefix;simp only [List.isPrefixOf, Bool.and_true];by_cases hc : s[0].toNat = 45
 ·have : s[0] = 45 := UInt8.toNat_inj.1 (by rw [hc]; rfl)
  simp [this]
 ·have : ¬ (45 : UInt8) = s[0] := fun h => hc (by rw [<- h]; rfl)
  simp [hc, this]
theorem sx0 (s : ByteArray) (M : s.size <= 1000000000000) (w : World) :
 Calls Tryz.prog 157 #[.string s] w (Drawn (fun v => v = .tuple #[.bool (hasPrefix s.data.toList [45]), .string (BS (trimPrefix s.data.toList [45]))]) w) := by
 rcases Nat.eq_zero_or_pos s.size with R | X
 ·have Z : s.data.toList = [] := List.length_eq_zero_iff.1 (by rw [Array.length_toList]; exact R)
  have Y : Hid (s = BS (trimPrefix s.data.toList [45]) /\ hasPrefix s.data.toList [45] = false) := by
   unfold Hid;rw [Z];exact ⟨bet (by rw [Z]; rfl), rfl⟩
  have Q : ¬ 0 < s.size := by omega
  have N : s.size <= 0 := by omega
  clear Z R;go_enter Tryz.func157, Tryz.ntmps157;go_wp2_with fail;go_ret2;exact ⟨_, rfl, tup2 Y.out.2.symm Y.out.1, dzo _⟩
 ·have S := hL0 s X
  obtain ⟨c0, U⟩ : ∃ c0 : Nat, s[0].toNat = c0 := ⟨_, rfl⟩;by_cases h45 : c0 = 45
  ·have Y : Hid (s.extract 1 s.size = BS (trimPrefix s.data.toList [45]) /\ hasPrefix s.data.toList [45] = true) := by
    unfold Hid;have V : hasPrefix s.data.toList [45] = true := by rw [S, U]; exact decide_eq_true h45
    refine ⟨?_, V⟩;apply bet;rw [extract_to_end, Blt];unfold trimPrefix;rw [if_pos V]; rfl
   have O : ((c0 : Int) == 45) = true := by rw [beq_iff_eq]; omega
   have Q : 1 <= s.size := X;clear S h45;go_enter Tryz.func157, Tryz.ntmps157;go_wp2_with fail;go_region;go_wp2_with fail;go_ret2;exact ⟨_, rfl, tup2 Y.out.2.symm Y.out.1, dsp ⟨0, rfl⟩ 1⟩
  ·have Y : Hid (s = BS (trimPrefix s.data.toList [45]) /\ hasPrefix s.data.toList [45] = false) := by
    unfold Hid;have V : hasPrefix s.data.toList [45] = false := by rw [S, U]; exact decide_eq_false h45
    refine ⟨?_, V⟩;apply bet;rw [Blt];unfold trimPrefix;rw [if_neg (by rw [V]; simp)]
   have O : ((c0 : Int) == 45) = false := by rw [beq_eq_false_iff_ne]; omega
   clear S h45;go_enter Tryz.func157, Tryz.ntmps157;go_wp2_with fail;go_ret2;exact ⟨_, rfl, tup2 Y.out.2.symm Y.out.1, dzo _⟩
theorem sIa (n : Int) (Y : (IS n).size <= 100000) (w : World) :
 Calls Tryz.prog 157 #[.string (IS n)] w (Drawn (fun v => v = .tuple #[.bool (decide (n < 0)), .string (BS (decDigits n.natAbs))]) w) := by
 refine (sx0 (IS n) (by omega) w).mono ?_;rintro e w' ⟨_, rfl, rfl, Z⟩;exact ⟨_, rfl, by rw [tIS, pIS], Z⟩
theorem oRa (n : Int) (Z : -9223372036854775808 <= n) (Y : n <= 9223372036854775807) (w : World) (V : Good w) :
 Calls Tryz.prog 80 #[.int .i64 n] w (Ret (fun v _ => v = .string (IS n)) w) := by
 go_enter Tryz.func80, Tryz.ntmps80;go_wp2_with fail;refine (iay n Z Y w V).mono ?_;rintro e w' ⟨_, rfl, rfl, X⟩;go_wp2_with fail;go_ret;exact ⟨_, rfl, rfl, X⟩
theorem sRa (n : Int) (Z : (IS n).size <= 100000) (w : World) :
 Calls Tryz.prog 122 #[.string (IS n)] w (Drawn (fun v => v = .int .i64 n.sign) w) := by
 have X := Ie4 n;rcases Int.lt_trichotomy n 0 with h | h | h
 ·have V : Hid (n.sign = -1) := Int.sign_eq_neg_one_of_neg h
  have Y : Hid (decide (n < 0) = true) := decide_eq_true h;clear X;go_enter Tryz.func122, Tryz.ntmps122;go_wp2_with fail;refine (sIa n Z _).mono ?_;rintro e U ⟨_, rfl, rfl, j, rfl⟩;rw [Y.out];go_wp2_with fail;go_ret;exact ⟨_, rfl, congrArg (Value.int .i64) V.out.symm, j, rfl⟩
 ·subst h
  rw [decide_eq_true rfl] at X;have Y : Hid (decide ((0 : Int) < 0) = false) := rfl;go_enter Tryz.func122, Tryz.ntmps122;go_wp2_with fail;refine (sIa 0 Z _).mono ?_;rintro e U ⟨_, rfl, rfl, j, rfl⟩;rw [Y.out];go_wp2_with fail;go_ret;exact ⟨_, rfl, rfl, j, rfl⟩
 ·have V : Hid (n.sign = 1) := Int.sign_eq_one_of_pos h
  have Y : Hid (decide (n < 0) = false) := decide_eq_false (by omega);rw [decide_eq_false (by omega)] at X;go_enter Tryz.func122, Tryz.ntmps122;go_wp2_with fail;refine (sIa n Z _).mono ?_;rintro e U ⟨_, rfl, rfl, j, rfl⟩;rw [Y.out];go_wp2_with fail;go_ret;exact ⟨_, rfl, congrArg (Value.int .i64) V.out.symm, j, rfl⟩
theorem nRa (n : Int) (Z : (IS n).size <= 100000) (w : World) :
 Calls Tryz.prog 123 #[.string (IS n)] w (Drawn (fun v => v = .string (IS (-n))) w) := by
 have X := Ie4 n;have V : Hid (BS (decDigits n.natAbs) = IS (n.natAbs : Int)) := by unfold Hid IS; rw [ib0]; rfl
 rcases Int.lt_trichotomy n 0 with h | h | h
 ·have U : Hid (BS (decDigits n.natAbs) = IS (-n)) := by unfold Hid; rw [V.out]; congr 1; omega
  have Y : Hid (decide (n < 0) = true) := decide_eq_true h;clear X;go_enter Tryz.func123, Tryz.ntmps123;go_wp2_with fail;refine (sIa n Z _).mono ?_;rintro e S ⟨_, rfl, rfl, j, rfl⟩;rw [Y.out, U.out];go_wp2_with fail;go_ret;exact ⟨_, rfl, rfl, j, rfl⟩
 ·subst h
  rw [decide_eq_true rfl] at X;have Y : Hid (decide ((0 : Int) < 0) = false) := rfl;go_enter Tryz.func123, Tryz.ntmps123;go_wp2_with fail;refine (sIa 0 Z _).mono ?_;rintro e S ⟨_, rfl, rfl, j, rfl⟩;rw [Y.out, V.out];go_wp2_with fail;go_ret;exact ⟨_, rfl, rfl, j, rfl⟩
 ·have Y : Hid (decide (n < 0) = false) := decide_eq_false (by omega)
  rw [decide_eq_false (by omega)] at X;have U : Hid (BS (decDigits n.natAbs) = IS n) := by unfold Hid; rw [V.out]; congr 1; omega
  have R : Hid ((⟨#[45]⟩ : ByteArray) ++ IS n = IS (-n)) := by
   unfold Hid;apply bet; rw [ba0, Ilt, Ilt, <- icn h]; rfl
  go_enter Tryz.func123, Tryz.ntmps123;go_wp2_with fail;refine (sIa n Z _).mono ?_;rintro e S ⟨_, rfl, rfl, j, rfl⟩;rw [Y.out, U.out];go_wp2_with fail;go_ret;exact ⟨_, rfl, congrArg Value.string R.out, j, rfl⟩
theorem aRa (n : Int) (Z : (IS n).size <= 100000) (w : World) :
 Calls Tryz.prog 158 #[.string (IS n)] w (Drawn (fun v => v = .string (IS (n.natAbs : Int))) w) := by
 have Y : Hid (BS (decDigits n.natAbs) = IS (n.natAbs : Int)) := by unfold Hid IS; rw [ib0]; rfl
 go_enter Tryz.func158, Tryz.ntmps158;go_wp2_with fail;refine (sIa n Z _).mono ?_;rintro e X ⟨_, rfl, rfl, j, rfl⟩;rw [Y.out];go_wp2_with fail;go_ret;exact ⟨_, rfl, rfl, j, rfl⟩
theorem dlm {n : Nat} {k : Nat} (Z : 0 < k) (h : (decDigits n).length <= k) : n < 10 ^ k := (ldD n k Z).1 h
theorem tup2i {a b : Int} {s t : Bool} (Z : a = b) (Y : s = t) : Value.tuple #[.int .i64 a, .bool s] = Value.tuple #[.int .i64 b, .bool t] := by rw [Z, Y]
theorem su0 (n : Int) (D : (decDigits n.natAbs).length <= 18) (w : World) :
 Calls Tryz.prog 188 #[.string (IS n)] w (Drawn (fun v => v = .tuple #[.int .i64 n, .bool true]) w) := by
 have x : (IS n).size <= 100000 := by
  have := iln n;rw [Ise]; rw [decDigits_length] at D; split at this <;> omega
 have s : n.natAbs < 1000000000000000000 := dlm (k := 18) (by decide) D;obtain ⟨l, Y⟩ := zex (decDigits n.natAbs);obtain ⟨S, E⟩ := zex (BS (decDigits n.natAbs));have N : S.data.toList = l := by rw [E, Blt, Y]
 have K : S.size = l.length := by rw [E, Bse, Y]
 have V : ∀ c ∈ S.data.toList, isDig c := by rw [N, Y]; exact dDd _
 have O : dsl S 0 S.size = n.natAbs := by
  unfold dsl;rw [List.drop_zero, List.take_of_length_le (by rw [Array.length_toList]; exact Nat.le_refl _), N, Y, ddD]
 have t : S.size <= 18 := by rw [K, Y]; exact D
 have R : Hid (∀ j, j <= 17 -> dsl S 0 j < 100000000000000000) := by
  intro j d;unfold dsl;rw [List.drop_zero];refine Nat.lt_of_lt_of_le (dlt _ fun c hc => V c (List.mem_of_mem_take hc)) ?_;show 10 ^ _ <= 10 ^ 17;refine Nat.pow_le_pow_right (by decide) ?_;rw [List.length_take]; omega
 have M := hid V;have L := hid O;have o := hid E;clear V O E N K Y D;obtain ⟨neg, Q⟩ := zex (decide (n < 0));have X := hid Q;clear Q;go_enter Tryz.func188, Tryz.ntmps188;go_wp2_with fail;refine (sIa n x _).mono ?_;rintro e w1 ⟨_, rfl, rfl, p, rfl⟩;rw [<- o.out, <- X.out];go_wp2_with fail;go_loop [6, 7] (fun t6 t7 => ∃ (k : Nat) (Z : Int), k <= S.size /\ t7 = .int .i64 k /\ t6 = .int .i64 Z /\ Hid (Z = -((dsl S 0 k : Nat) : Int)) /\ -1000000000000000000 < Z /\ Z <= 0) (fun _ t7 => S.size - (RowKit.intOf t7).toNat)
 case atStart => exact ⟨0, 0, Nat.zero_le _, rfl, rfl, by unfold Hid; rw [dsf]; rfl, by omega, by omega⟩
 case round =>
  obtain ⟨k, Z, b, rfl, rfl, B, i, h⟩ := hrel;rcases Nat.lt_or_ge k S.size with I | m
  ·have A := dat S M.out k I
   have H : Hid (dsl S 0 (k + 1) = 10 * dsl S 0 k + (S[k].toNat - 48)) := dd0 S 0 k I (Nat.zero_le _);obtain ⟨U, J⟩ : ∃ U : Nat, S[k].toNat = U := ⟨_, rfl⟩;have C := hid J;rw [J] at A;have g : -100000000000000000 < Z := by
    have := R.out k (by omega);rw [B.out]; omega
   have hx : Hid (10 * Z - ((U : Int) - 48) = -((dsl S 0 (k + 1) : Nat) : Int)) := by
    unfold Hid; rw [H.out, B.out, C.out]; omega
   have G : -1000000000000000000 < 10 * Z - ((U : Int) - 48) /\ 10 * Z - ((U : Int) - 48) <= 0 := by omega
   have a : decide (Z < (-9223372036854775808 + ((U : Int) - 48)).tdiv 10) = false := by
    have : (-9223372036854775808 + ((U : Int) - 48)).tdiv 10 <= -900000000000000000 := by
     obtain ⟨y, hy, f⟩ : ∃ y : Int, -9223372036854775808 + ((U : Int) - 48) = -y /\ 9200000000000000000 <= y := ⟨9223372036854775808 - ((U : Int) - 48), by omega, by omega⟩;rw [hy, Int.neg_tdiv, Int.tdiv_eq_ediv_of_nonneg (by omega)];omega
    simp; omega
   clear H;go_wp2_with fail
   go_round
   case rel => exact ⟨k + 1, _, by omega, by go_num, rfl, hx, G.1, G.2⟩
   case measure => simp [RowKit.intOf]; omega
  ·have q : Hid (Z = -((n.natAbs : Nat) : Int)) := by
    have : k = S.size := by omega
    unfold Hid; rw [B.out, this, L.out]
   have r : (Z == -9223372036854775808) = false := by rw [beq_eq_false_iff_ne]; omega
   cases neg
   ·have z : Hid (-Z = n) := by
     have := of_decide_eq_false X.out.symm;unfold Hid; rw [q.out]; omega
    go_wp2_with fail;go_ret2;exact ⟨_, rfl, tup2i z.out rfl, p, rfl⟩
   ·have z : Hid (Z = n) := by
     have := of_decide_eq_true X.out.symm;unfold Hid; rw [q.out]; omega
    go_wp2_with fail;go_ret2;exact ⟨_, rfl, tup2i z.out rfl, p, rfl⟩
theorem bRa (n : Int) (Y : (IS n).size <= 100000) (w : World) :
 Calls Tryz.prog 159 #[.string (IS n)] w (Drawn (fun v => ∃ x one, v = .tuple #[.int .i64 x, .bool one] /\ (one = true -> x = n /\ -100000000000000000 < n /\ n < 100000000000000000)) w) := by
 obtain ⟨S, V⟩ := zex (BS (decDigits n.natAbs));have Z : S.size = (decDigits n.natAbs).length := by rw [V, Bse]
 have X := hid Z;have U := hid V;have M : S.size <= 100000 := by
  have := iln n;rw [Ise] at Y;rw [Z, decDigits_length]; split at this <;> omega
 clear V Z;rcases Nat.lt_or_ge 17 S.size with h | h
 ·go_enter Tryz.func159, Tryz.ntmps159
  go_wp2_with fail;refine (sIa n Y _).mono ?_;rintro e L ⟨_, rfl, rfl, O, rfl⟩;rw [<- U.out];go_wp2_with fail;go_ret2;exact ⟨_, rfl, ⟨_, _, rfl, fun h => by cases h⟩, O, rfl⟩
 ·have R : (decDigits n.natAbs).length <= 18 := by rw [<- X.out]; omega
  have Q : n.natAbs < 100000000000000000 := dlm (k := 17) (by decide) (by rw [<- X.out]; exact h);have N := hid R;clear R;go_enter Tryz.func159, Tryz.ntmps159;go_wp2_with fail;refine (sIa n Y _).mono ?_;rintro e L ⟨_, rfl, rfl, O, rfl⟩;rw [<- U.out];go_wp2_with fail;refine (su0 n N.out _).mono ?_;rintro e J ⟨_, rfl, rfl, K, rfl⟩;go_wp2_with fail;go_ret2;exact ⟨_, rfl, ⟨_, _, rfl, fun _ => ⟨rfl, by omega, by omega⟩⟩, _, rfl⟩
theorem lh0 {n : Int} {k : Nat} (Y : 0 < k) (h : (IS n).size <= k) : (lm B4 n.natAbs).length <= k := by
 rw [Ise] at h;have Z := nAl Y h;refine la0 B4 _ _ ta0 (Nat.lt_of_lt_of_le Z ?_);exact Nat.pow_le_pow_left (by decide) _
theorem l4l {n : Int} (h : (IS n).size <= 100000) : (lm B4 n.natAbs).length <= 100000 := lh0 (by decide) h
theorem dse {n : Int} (h : (IS n).size <= 100000) : (BS (decDigits n.natAbs)).size <= 100000 := by
 have := iln n;rw [Ise] at h;rw [Bse, decDigits_length]; split at this <;> omega
theorem tIa (k : Nat) (Z : (BS (decDigits k)).size <= 3000000) (w : World) :
 Calls Tryz.prog 161 #[.string (BS (decDigits k))] w (Ret (fun v w' => Rd .i64 w' v (lm B4 k)) w) := by
 have h := t4a w (BS (decDigits k)) (by rw [Blt]; exact dDd k) Z;rw [Blt, ddD] at h;exact h.mono fun _ _ ⟨v, he, hv, hb⟩ => ⟨v, he, hv.1, hb⟩
theorem mIa (w : World) (m : Bool) (v : Value) (n : Nat) (h : Rd .i64 w v (lm B4 n)) (Z : (lm B4 n).length <= 3000000) (Y : Good w) :
 Calls Tryz.prog 163 #[.bool m, v] w (Ret (fun r _ => r = .string (IS (sgn m n))) w) := by
 have h := mg0 w m v (lm B4 n) (lm_lt B4 n ta0) h Z Y;rwa [llm B4 n ta0] at h
theorem l4a {a b n : Nat} (Z : (lm B4 a).length <= n) (Y : (lm B4 b).length <= n) : (lm B4 (a + b)).length <= n + 1 := by
 refine la0 B4 _ _ ta0 ?_;have X := Nat.lt_of_lt_of_le (lll B4 a ta0) (Nat.pow_le_pow_right (show 0 < B4 by decide) Z);have V := Nat.lt_of_lt_of_le (lll B4 b ta0) (Nat.pow_le_pow_right (show 0 < B4 by decide) Y);have U : 2 * B4 ^ n <= B4 * B4 ^ n := Nat.mul_le_mul_right _ (by decide);rw [Nat.pow_succ, Nat.mul_comm];omega
theorem l4m {a b n : Nat} (h : a <= b) (Z : (lm B4 b).length <= n) : (lm B4 a).length <= n :=
 Nat.le_trans (la0 B4 _ _ ta0 (Nat.lt_of_le_of_lt h (lll B4 b ta0))) Z
theorem nse {n : Int} {k : Nat} (h : (IS n).size <= k) : (IS (-n)).size <= k + 1 := by
 have Y := iln n;have Z := iln (-n);rw [Ise] at h ⊢;rw [Int.natAbs_neg] at Z;split at Y <;> split at Z <;> omega
theorem tup2s {a b c d : ByteArray} (Z : a = c) (Y : b = d) : Value.tuple #[.string a, .string b] = Value.tuple #[.string c, .string d] := by rw [Z, Y]
theorem tlm {x y : Int} {M : Int} (hx : -M < x /\ x < M) : -M < x.tdiv y /\ x.tdiv y < M := by
 have h : (x.tdiv y).natAbs <= x.natAbs := by
  rw [Int.natAbs_tdiv]; exact Nat.div_le_self _ _
 omega
theorem tc0 {x y : Int} (hy : y ≠ 0) : (x.tmod y).natAbs < y.natAbs := by rw [tmod_natAbs']; exact Nat.mod_lt _ (by omega)
 where tmod_natAbs' : (x.tmod y).natAbs = x.natAbs % y.natAbs := Int.natAbs_tmod ..
theorem tf0 {x y : Int} (hy : y ≠ 0) (h : 0 <= x.tmod y) : x.tdiv y = x / y /\ x.tmod y = x % y := by
 have Y := tc0 (x := x) hy;have X := Int.mul_tdiv_add_tmod x y;rcases Int.lt_or_le 0 y with Z | V
 ·have := (Int.ediv_emod_unique (a := x) (b := y) (r := x.tmod y) (q := x.tdiv y) Z).2 ⟨by omega, h, by omega⟩
  exact ⟨this.1.symm, this.2.symm⟩
 ·have Z : 0 < -y := by omega
  have := (Int.ediv_emod_unique (a := x) (b := -y) (r := x.tmod y) (q := -(x.tdiv y)) Z).2 ⟨by rw [Int.neg_mul_neg]; omega, h, by omega⟩;rw [Int.ediv_neg, Int.emod_neg] at this;exact ⟨by omega, this.2.symm⟩
theorem tg0 {x y : Int} (hy : y ≠ 0) (h : x.tmod y < 0) : (x - (x.tmod y + max y (-y))).tdiv y = x / y /\ x.tmod y + max y (-y) = x % y := by
 have Y := tc0 (x := x) hy;have X := Int.mul_tdiv_add_tmod x y;rcases Int.lt_or_le 0 y with Z | V
 ·have e : max y (-y) = y := by omega
  rw [e];have := (Int.ediv_emod_unique (a := x) (b := y) (r := x.tmod y + y) (q := x.tdiv y - 1) Z).2 ⟨by rw [Int.mul_sub]; omega, by omega, by omega⟩;refine ⟨?_, this.2.symm⟩;rw [show x - (x.tmod y + y) = y * (x.tdiv y - 1) by rw [Int.mul_sub]; omega, Int.mul_tdiv_cancel_left _ hy];exact this.1.symm
 ·have Z : 0 < -y := by omega
  have e : max y (-y) = -y := by omega
  rw [e];have := (Int.ediv_emod_unique (a := x) (b := -y) (r := x.tmod y + -y) (q := -(x.tdiv y) - 1) Z).2 ⟨by rw [Int.mul_sub, Int.neg_mul_neg]; omega, by omega, by omega⟩;rw [Int.ediv_neg, Int.emod_neg] at this;refine ⟨?_, this.2.symm⟩;rw [show x - (x.tmod y + -y) = y * (x.tdiv y + 1) by rw [Int.mul_add]; omega, Int.mul_tdiv_cancel_left _ hy];omega
theorem dRa (a b : Int) (G : (IS a).size <= 100000) (E : (IS b).size <= 100000) (hc : b ≠ 0) (w : World) (hg : Good w) :
 Calls Tryz.prog 125 #[.string (IS a), .string (IS b)] w (Ret (fun v _ => v = .tuple #[.string (IS (a / b)), .string (IS (a % b))]) w) := by
 have hF := l4l G;have hl := l4l E;have z2 := dse G;have z3 := dse E;have S := hid hc;clear hc;go_enter Tryz.func125, Tryz.ntmps125;go_wp2_with fail;refine ((bRa a G _).mono fun _ _ h => h.ret).mono ?_;rintro e w1 ⟨_, rfl, ⟨x, one, rfl, hx⟩, hd⟩;go_wp2_with fail;refine ((bRa b E _).mono fun _ _ h => h.ret).mono ?_;rintro e w2 ⟨_, rfl, ⟨y, h5, rfl, hy⟩, hf⟩;have R : Below w.heap.size w w2 := zbt hd hf;clear hd hf;rcases (by cases one <;> cases h5 <;> simp : (one = true /\ h5 = true) \/ (one = false) \/ (one = true /\ h5 = false)) with ⟨h1, h2⟩ | h1 | ⟨h1, h2⟩
 ·obtain ⟨rfl, k1⟩ := hx h1
  obtain ⟨rfl, k2⟩ := hy h2;subst h1;subst h2;have hN : ¬ y = 0 := S.out;have z9 : (y == 0) = false := by simpa using hN
  have q1 := tlm (y := y) k1;have m1 := tc0 (x := x) S.out;have m2 : -100000000000000000 < x.tmod y /\ x.tmod y < 100000000000000000 := by omega
  rcases Int.lt_or_le (x.tmod y) 0 with Y | hH
  ·have X := hid (tg0 S.out Y)
   have r1 : 0 <= x.tmod y + max y (-y) /\ x.tmod y + max y (-y) < 100000000000000000 := by omega
   have q2 : -200000000000000000 < (x - (x.tmod y + max y (-y))).tdiv y /\ (x - (x.tmod y + max y (-y))).tdiv y < 200000000000000000 := tlm (by omega);have tn : decide (x.tmod y < 0) = true := decide_eq_true Y;clear m1;go_wp2_with fail;go_quiet (fail);go_wp2_with fail;have J : Below w.heap.size w (w2.drewN nq) := R.trans ((bdN w2 nq).mono R.size);have q9 : -9223372036854775808 <= x / y /\ x / y <= 9223372036854775807 := by rw [<- X.out.1]; omega
   have r9 : -9223372036854775808 <= x % y /\ x % y <= 9223372036854775807 := by rw [<- X.out.2]; omega
   rw [X.out.1];refine (oRa (x / y) q9.1 q9.2 _ (hg.below J)).mono ?_;rintro e w3 ⟨_, rfl, rfl, Z⟩;have K := zbt J Z;go_wp2_with fail;rw [X.out.2];refine (oRa (x % y) r9.1 r9.2 _ (hg.below K)).mono ?_;rintro e w4 ⟨_, rfl, rfl, Q⟩;go_wp2_with fail;go_ret2;exact ⟨_, rfl, rfl, (zbt K Q)⟩
  ·have X := hid (tf0 S.out hH)
   have tn : decide (x.tmod y < 0) = false := decide_eq_false (by omega);clear m1;go_wp2_with fail;go_quiet (fail);go_wp2_with fail;have J : Below w.heap.size w (w2.drewN nq) := R.trans ((bdN w2 nq).mono R.size);have q9 : -9223372036854775808 <= x / y /\ x / y <= 9223372036854775807 := by rw [<- X.out.1]; omega
   have r9 : -9223372036854775808 <= x % y /\ x % y <= 9223372036854775807 := by rw [<- X.out.2]; omega
   rw [X.out.1];refine (oRa (x / y) q9.1 q9.2 _ (hg.below J)).mono ?_;rintro e w3 ⟨_, rfl, rfl, Z⟩;have K := zbt J Z;go_wp2_with fail;rw [X.out.2];refine (oRa (x % y) r9.1 r9.2 _ (hg.below K)).mono ?_;rintro e w4 ⟨_, rfl, rfl, Q⟩;go_wp2_with fail;go_ret2;exact ⟨_, rfl, rfl, (zbt K Q)⟩
 case' inr.inl =>
  subst h1
 case' inr.inr =>
  subst h1;subst h2
 all_goals
  clear hx hy;obtain ⟨ma, n⟩ := zex (decide (a < 0));obtain ⟨o, l⟩ := zex (decide (b < 0));have hA := hid n;have hB := hid l;have h7 : Hid (0 < b.natAbs) := by have := S.out; unfold Hid; omega
  have h8 : Hid (∀ d m : Nat, (d = if ma = true /\ 0 < a.natAbs % b.natAbs then a.natAbs / b.natAbs + 1 else a.natAbs / b.natAbs) -> (m = if ma = true /\ 0 < a.natAbs % b.natAbs then b.natAbs - a.natAbs % b.natAbs else a.natAbs % b.natAbs) ->
   (if (ma != o) then -(d : Int) else (d : Int)) = a / b /\ (m : Int) = a % b) := fun d m h3 h4 => deq S.out n l h3 h4
  have z : a.natAbs % b.natAbs < b.natAbs := Nat.mod_lt _ h7.out;clear n l;go_wp2_with fail;refine ((sIa a G _).mono fun _ _ h => h.ret).mono ?_;rintro e w3 ⟨_, rfl, rfl, Z⟩;have Q := zbt R Z;clear R Z;rw [<- hA.out];go_wp2_with fail;refine ((sIa b E _).mono fun _ _ h => h.ret).mono ?_;rintro e w4 ⟨_, rfl, rfl, Z⟩;have hh := zbt Q Z;clear Q Z;rw [<- hB.out];go_wp2_with fail;refine (tIa a.natAbs (by omega) _).mono ?_;rintro e w5 ⟨va, rfl, g, Z⟩;have hi := zbt hh Z;clear hh Z;obtain ⟨pa, ca, rfl, hY, hR, hp⟩ := g.open;clear hp;go_wp2_with fail;refine (tIa b.natAbs (by omega) _).mono ?_;rintro e w6 ⟨vb, rfl, f, Z⟩;have hj := zbt hi Z;obtain ⟨pb, cb, rfl, hZ, hS, hs⟩ := f.open;have ha := hid (RdC.below g Z);have hb := hid f;clear hi Z g f hs;go_wp2_with fail;refine (ph0 _ _ _ a.natAbs b.natAbs ha.out hb.out h7.out (by omega) (by omega)).mono ?_;rintro e w7 ⟨_, rfl, ⟨vq, vr, rfl, hq, hr⟩, O⟩;have I := zbt hj O;generalize ht : a.natAbs % b.natAbs = r at *;generalize k : a.natAbs / b.natAbs = q at *;have hG : (lm B4 q).length <= 100000 := by
   rw [<- k]; exact l4m (Nat.div_le_self _ _) hF
  have z4 : (lm B4 r).length <= 100000 := l4m (Nat.le_of_lt z) hl;have hU := hid ht;have hT := hid k;obtain ⟨pq, cq, rfl, z0, z7, hJ⟩ := hq.open;obtain ⟨pr, cr, rfl, z1, z8, hK⟩ := hr.open;have HQ := hid hq;have HR := hid hr;clear hq hr hJ hK hj O ht k ha hb;have H := hg.below I;obtain ⟨mm, V⟩ := zex ((ma != o));by_cases Y : ma = true /\ 0 < r
  ·obtain ⟨rfl, j⟩ := Y
   have hC : 0 < (lm B4 r).length := List.length_pos_iff.2 (lnn B4 r ta0 j);have X : Hid (sgn mm (q + 1) = a / b /\ ((b.natAbs - r : Nat) : Int) = a % b) := by
    rw [V]; exact h8.out (q + 1) (b.natAbs - r) (by simp [j]) (by simp [j])
   have HM : Hid (mm = !o) := by unfold Hid; rw [V]; cases o <;> rfl
   have t : Rd .i64 (w7.alloc (.cells #[.int .i64 1] 3)) (.slice (some ⟨w7.heap.size, 0, none⟩) 1 1) (lm B4 1) := by
    have e : lm B4 1 = [1] := by
     rw [lps B4 1 ta0 (by decide), show 1 / B4 = 0 from rfl, lzo]; rfl
    rw [e];refine ⟨_, _, rfl, Nat.le_refl _, by unfold maxLen; omega, rfl, fun _ => ⟨w7.heap.size, 0, rfl, fun i x hx => ?_⟩⟩;cases i with
    | zero => simp at hx; rw [World.cell?_alloc_at _ _ _ _ rfl, <- hx]; rfl
    | succ i => simp at hx
   have h9 := hid t;have l1 : (lm B4 1).length <= 1000000 := by
    have := la0 B4 1 1 ta0 (by decide); omega
   have hm : (lm B4 (q + 1)).length <= 3000000 := by
    have := l4a hG (show (lm B4 1).length <= 100000 by have := la0 B4 1 1 ta0 (by decide); omega); omega
   have hn : (lm B4 (b.natAbs - r)).length <= 3000000 := by have := l4m (Nat.sub_le b.natAbs r) hl; omega
   have hk : Below w7.heap.size w7 (w7.alloc (.cells #[.int .i64 1] 3)) := zal _ _;have h6 := hid hk;have hw := hid (Nat.le_of_lt z);clear V t hk;go_wp2_with fail;refine (j4a _ _ _ q 1 (q + 1) 1 (RdC.below HQ.out h6.out) h9.out (by omega) (by omega) (by omega) l1).mono ?_;rintro e w8 ⟨v8, rfl, ⟨c, _⟩, U⟩;obtain ⟨p8, c8, rfl, hW, z5, hL⟩ := c.open;have D := zbt h6.out U;clear hL U;go_wp2_with fail;refine (tIa b.natAbs (by omega) _).mono ?_;rintro e w9 ⟨zc, rfl, s, N⟩;obtain ⟨p9, c9, rfl, hX, z6, hM⟩ := s.open;have M := zbt D N;have hv := RdC.below c N;clear hM N D c;go_wp2_with fail;refine (j4a _ _ _ b.natAbs r (b.natAbs - r) (-1) s (RdC.below HR.out M) (by omega) (by have := hw.out; omega) (by omega) (by omega)).mono ?_;rintro e hO ⟨zb, rfl, ⟨p, _⟩, L⟩;obtain ⟨za, hV, rfl, hP, hQ, ho⟩ := p.open;have C := zbt M L;have hu := RdC.below hv L;clear ho L M hv;go_wp2_with fail;rw [<- HM.out];refine (mIa _ mm _ (q + 1) hu hm (H.below C)).mono ?_;rintro e zd ⟨_, rfl, rfl, B⟩;rw [X.out.1];have A := zbt C B;go_wp2_with fail;refine (mIa _ false _ (b.natAbs - r) (RdC.below p B) hn (H.below A)).mono ?_;rintro e ze ⟨_, rfl, rfl, he⟩;rw [show sgn false (b.natAbs - r) = a % b from X.out.2];go_wp2_with fail;go_ret2;exact ⟨_, rfl, rfl, I.trans (((zbt A he)).mono I.size)⟩
  ·have hz : ma = true -> (lm B4 r).length = 0 := fun h => by
    have : r = 0 := by
     rcases Nat.eq_zero_or_pos r with h0 | h0
     ·exact h0
     ·exact absurd ⟨h, h0⟩ Y
    rw [this, lzo]; rfl
   have X : Hid (sgn mm q = a / b /\ (r : Int) = a % b) := by
    rw [V]; exact h8.out q r (by rw [if_neg Y]) (by rw [if_neg Y])
   have hD : (lm B4 r).length <= 3000000 := by omega
   have hE : (lm B4 q).length <= 3000000 := by omega
   have HZ := hid hz;clear hz Y;cases ma
   case' true =>
    have hC : ¬ 0 < (lm B4 r).length := by have := HZ.out rfl; omega
    have HM : Hid (mm = !o) := by unfold Hid; rw [V]; cases o <;> rfl
   case' false =>
    have HM : Hid (mm = o) := by unfold Hid; rw [V]; cases o <;> rfl
   all_goals
    clear V;go_wp2_with fail;rw [<- HM.out];refine (mIa _ mm _ q HQ.out hE H).mono ?_;rintro e w9 ⟨_, rfl, rfl, O⟩;rw [X.out.1];go_wp2_with fail;refine (mIa _ false _ r (RdC.below HR.out O) hD (H.below O)).mono ?_;rintro e hO ⟨_, rfl, rfl, U⟩;rw [show sgn false r = a % b from X.out.2];go_wp2_with fail;go_ret2;exact ⟨_, rfl, rfl, I.trans (((zbt O U)).mono I.size)⟩
theorem nsm {a b k : Nat} (h : a <= b) (Y : (IS (b : Int)).size <= k) (Z : 0 < k) : (IS (a : Int)).size <= k := by
 rw [Ise, ib0] at *;rw [ldD _ _ Z] at *;omega
theorem ase {n : Int} {k : Nat} (h : (IS n).size <= k) : (IS (n.natAbs : Int)).size <= k := by
 have Z := iln n;rw [Ise] at h;rw [Ise, ib0, decDigits_length];split at Z <;> omega
theorem gRa (a b : Int) (N : (IS a).size <= 100000) (M : (IS b).size <= 100000) (w : World) (t : Good w) :
 Calls Tryz.prog 124 #[.string (IS a), .string (IS b)] w (Ret (fun v _ => v = .string (IS (Int.gcd a b : Nat))) w) := by
 have L := hid (ase N);have K := hid (ase M);go_enter Tryz.func124, Tryz.ntmps124;go_wp2_with fail;refine ((aRa a N _).mono fun _ _ h => h.ret).mono ?_;rintro e r ⟨_, rfl, rfl, V⟩;go_wp2_with fail;refine ((aRa b M _).mono fun _ _ h => h.ret).mono ?_;rintro e q ⟨_, rfl, rfl, U⟩;have S := zbt V U;clear V U;go_wp2_with fail
 go_loopg [0, 1] b.natAbs (fun n t0 t1 wr => ∃ m : Nat, t0 = .string (IS (m : Int)) /\ t1 = .string (IS (n : Int)) /\ Hid (Nat.gcd m n = Int.gcd a b) /\ (IS (m : Int)).size <= 100000 /\ (IS (n : Int)).size <= 100000 /\ Below w.heap.size w wr)
 case atStart => exact ⟨a.natAbs, rfl, rfl, rfl, L.out, K.out, S⟩
 case round =>
  clear S;obtain ⟨m, rfl, rfl, D, H, Z, Y⟩ := hrel;have X := Ie4 (gk : Int);rcases Nat.eq_zero_or_pos gk with x | O
  ·subst x
   rw [show decide (((0 : Nat) : Int) = 0) = true from rfl] at X;have E : ((IS ((0 : Nat) : Int)).toList == [48]) = true := X;have s : ((IS 0).toList == [48]) = true := X;have y : Hid ((m : Int) = ((Int.gcd a b : Nat) : Int)) := by
    unfold Hid; rw [<- D.out, Nat.gcd_zero_right]
   clear X;go_wp2_with fail;go_ret;exact ⟨_, rfl, congrArg (fun z : Int => Value.string (IS z)) y.out, Y⟩
  ·rw [show decide ((gk : Int) = 0) = false from decide_eq_false (by omega)] at X
   have E : ((IS (gk : Int)).toList == [48]) = false := X;have Q : m % gk < gk := Nat.mod_lt _ O;have A : Hid (Nat.gcd gk (m % gk) = Int.gcd a b) := by unfold Hid; rw [gsp]; exact D.out
   have G : (IS ((m % gk : Nat) : Int)).size <= 100000 := nsm (Nat.le_of_lt Q) Z (by omega);have B : Hid ((m : Int) % (gk : Int) = ((m % gk : Nat) : Int)) := by unfold Hid; omega
   have C : Hid ((gk : Int) ≠ 0) := by unfold Hid; omega
   have I := t.below Y;clear X;go_wp2_with fail;refine (dRa (m : Int) (gk : Int) H Z C.out _ I).mono ?_;rintro e p ⟨_, rfl, rfl, J⟩;rw [B.out];have R := zbt Y J;go_wp2_with fail
   go_roundg (m % gk)
   case measure => exact Q
   case rel => exact ⟨gk, rfl, rfl, A, Z, G, R⟩
def fst47 (l : List UInt8) : List UInt8 := if 0 <= indexByte l 47 then l.take (indexByte l 47).toNat else l
def snd47 (l : List UInt8) : List UInt8 := if 0 <= indexByte l 47 then l.drop ((indexByte l 47).toNat + 1) else [49]
theorem f4R (q : Rat) : fst47 (RL q) = itoa q.num := by
 unfold fst47;by_cases h : q.den = 1
 ·rw [Rio h, if_neg (by omega), Rod h]
 ·rw [Rid h, if_pos (by omega), Rdn h]; simp
theorem s4R (q : Rat) : snd47 (RL q) = decDigits q.den := by
 unfold snd47;by_cases h : q.den = 1
 ·rw [Rio h, if_neg (by omega), h, decDigits_one (i := 1) (by omega)]; rfl
 ·rw [Rid h, if_pos (by omega), Rdn h]
  rw [show ((itoa q.num).length : Int).toNat + 1 = (itoa q.num).length + 1 by omega];simp
theorem dIS (q : Rat) : BS (decDigits q.den) = IS (q.den : Int) := by unfold IS; rw [ib0]; rfl
theorem prt (q : Rat) (S : (RS q).size < 1000000000) (w : World) (U : Good w) :
 Calls Tryz.prog 54 #[.string (RS q)] w (Drawn (fun v => v = .tuple #[.string (IS q.num), .string (IS (q.den : Int))]) w) := by
 have V : Hid (cut (RS q).data.toList [47] = if q.den = 1 then (RL q, [], false) else (itoa q.num, decDigits q.den, true)) := by
  unfold Hid cut;rw [Rlt, index_one];by_cases h : q.den = 1
  ·rw [Rio h, if_neg (by omega), if_pos h]
  ·have e := f4R q
   have X := s4R q;unfold fst47 at e;unfold snd47 at X;rw [Rid h] at e X ⊢;rw [if_pos (by omega)] at e X ⊢;rw [if_neg h, e];rw [<- X]; rfl
 by_cases hd : q.den = 1
 ·have Y : Hid (BS (RL q) = IS q.num /\ (⟨#[49]⟩ : ByteArray) = IS (q.den : Int)) := by
   unfold Hid;rw [Rod hd, hd];exact ⟨rfl, by rw [show ((1 : Nat) : Int) = 1 from rfl, Ioe]⟩
  have Z : Hid (cut (RS q).data.toList [47] = (RL q, [], false)) := by unfold Hid; rw [V.out, if_pos hd]
  clear hd;go_enter Tryz.func54, Tryz.ntmps54;go_wp2_with fail;refine (ck0 (RS q) S _ U).mono ?_;rintro e R ⟨_, rfl, rfl, j, rfl⟩;rw [Z.out];go_wp2_with fail;go_ret2;exact ⟨_, rfl, tup2s Y.out.1 Y.out.2, j, rfl⟩
 ·have Y : Hid (BS (itoa q.num) = IS q.num /\ BS (decDigits q.den) = IS (q.den : Int)) := ⟨rfl, dIS q⟩
  have Z : Hid (cut (RS q).data.toList [47] = (itoa q.num, decDigits q.den, true)) := by unfold Hid; rw [V.out, if_neg hd]
  clear hd;go_enter Tryz.func54, Tryz.ntmps54;go_wp2_with fail;refine (ck0 (RS q) S _ U).mono ?_;rintro e R ⟨_, rfl, rfl, j, rfl⟩;rw [Z.out];go_wp2_with fail;go_ret2;exact ⟨_, rfl, tup2s Y.out.1 Y.out.2, j, rfl⟩
structure Lies (q : Rat) (s : ByteArray) (b0 n1 : Nat) : Prop where
 b1 : b0 <= 1
 neg : b0 = 1 ↔ q.num < 0
 lt : b0 < n1
 le : n1 <= s.size
 sign : (h : 0 < s.size) -> (s[0].toNat = 45 ↔ b0 = 1)
 dig : ∀ (i : Nat) (h : i < s.size), b0 <= i -> i < n1 -> isDig s[i]
 slash : (h : n1 < s.size) -> s[n1] = 47
 dig2 : ∀ (i : Nat) (h : i < s.size), n1 < i -> isDig s[i]
 num : dsl s b0 n1 = q.num.natAbs
 den1 : n1 = s.size -> q.den = 1
 den : n1 < s.size -> n1 + 1 < s.size /\ dsl s (n1 + 1) s.size = q.den
theorem lof (q : Rat) : ∃ b0 n1, Lies q (RS q) b0 n1 := by
 obtain ⟨P, L⟩ := zex (if q.num < 0 then [45] else [] : List UInt8)
 obtain ⟨D, M⟩ := zex (decDigits q.num.natAbs);obtain ⟨T, X⟩ := zex (if q.den = 1 then [] else 47 :: decDigits q.den : List UInt8)
 have N : (RS q).data.toList = P ++ (D ++ T) := by
  rw [Rlt, RL, inA, L, X, M];split <;> split <;> simp
 have S : ∀ c ∈ D, isDig c := by rw [M]; exact dDd _
 have R : 0 < D.length := by rw [M]; exact List.length_pos_iff.2 (dDn _)
 have A : (RS q).size = P.length + (D.length + T.length) := by
  have : (RS q).data.toList.length = (RS q).size := by rw [Array.length_toList]; rfl
  rw [<- this, N]; simp
 have K : ∀ (i : Nat) (h : i < (RS q).size), (RS q)[i] = (P ++ (D ++ T))[i]'(by rw [<- N, Array.length_toList]; exact h) := by
  intro i h;have H : i < (RS q).data.toList.length := by rw [Array.length_toList]; exact h
  have e : (RS q)[i] = (RS q).data.toList[i]'H := by rfl
  rw [e];simp only [N]
 have Q : P.length <= 1 /\ (P.length = 1 ↔ q.num < 0) := by
  rw [L]; split <;> simp_all
 refine ⟨P.length, P.length + D.length, ⟨Q.1, Q.2, by omega, by omega, ?_, ?_, ?_, ?_, ?_, ?_, ?_⟩⟩
 ·intro h
  rw [K 0 h];by_cases hn : q.num < 0
  ·have U : P = [45] := by rw [L, if_pos hn]
   subst U;simp
  ·have U : P = [] := by rw [L, if_neg hn]
   subst U;simp only [List.nil_append, List.length_nil];rw [List.getElem_append_left R];have := S _ (List.getElem_mem R);unfold isDig at this;constructor
   ·intro h; omega
   ·intro h; omega
 ·intro i h I H
  rw [K i h, List.getElem_append_right I, List.getElem_append_left (by omega)];exact S _ (List.getElem_mem _)
 ·intro h
  rw [K _ h, List.getElem_append_right (by omega), List.getElem_append_right (by omega)];have Y : 0 < T.length := by omega
  have V : q.den ≠ 1 := by
   intro e; rw [X, if_pos e] at Y; simp at Y
  have e : P.length + D.length - P.length - D.length = 0 := by omega
  simp only [e];simp only [X, if_neg V, List.getElem_cons_zero]
 ·intro i h I
  rw [K i h, List.getElem_append_right (by omega), List.getElem_append_right (by omega)];have V : q.den ≠ 1 := by
   intro e;have : T.length = 0 := by rw [X, if_pos e]; rfl
   omega
  obtain ⟨k, B⟩ : ∃ k, i - P.length - D.length = k + 1 := ⟨i - P.length - D.length - 1, by omega⟩;simp only [B];have Z : T = 47 :: decDigits q.den := by rw [X, if_neg V]
  have J : k < (decDigits q.den).length := by
   have : T.length = (decDigits q.den).length + 1 := by rw [Z]; simp
   omega
  have : T[k + 1]'(by rw [Z]; simp; exact J) = (decDigits q.den)[k] := by simp only [Z, List.getElem_cons_succ]
  rw [this];exact dDd _ _ (List.getElem_mem _)
 ·unfold dsl
  rw [N, <- List.append_assoc, List.take_append_of_le_length (by simp), List.take_of_length_le (by simp), List.drop_append_of_le_length (by omega), List.drop_eq_nil_of_le (by omega), List.nil_append, M, ddD]
 ·intro h
  have O : T.length = 0 := by omega
  refine Classical.byContradiction fun V => ?_
  rw [X, if_neg V] at O;simp at O
 ·intro h
  have Y : 0 < T.length := by omega
  have V : q.den ≠ 1 := by
   intro e; rw [X, if_pos e] at Y; simp at Y
  have Z : T = 47 :: decDigits q.den := by rw [X, if_neg V]
  have E : T.length = (decDigits q.den).length + 1 := by rw [Z]; simp
  have C : 0 < (decDigits q.den).length := List.length_pos_iff.2 (dDn _);refine ⟨by omega, ?_⟩;unfold dsl;rw [List.take_of_length_le (by rw [Array.length_toList]; exact Nat.le_refl _), N, Z, <- List.append_assoc,
   show P.length + D.length + 1 = (P ++ D).length + 1 by simp, List.drop_append]
  have G : List.drop (P.length + D.length + 1) (P ++ D) = [] := List.drop_eq_nil_of_le (by simp);simp [G, ddD]
theorem dl9 (s : ByteArray) (a b : Nat) (Y : ∀ (i : Nat) (h : i < s.size), a <= i -> i < b -> isDig s[i]) (V : b <= a + 9) : dsl s a b < 1000000000 := by
 unfold dsl;refine Nat.lt_of_lt_of_le (dlt _ fun c hc => ?_) ?_
 ·obtain ⟨i, X, rfl⟩ := List.getElem_of_mem hc
  rw [List.length_drop, List.length_take, Array.length_toList] at X;rw [List.getElem_drop, List.getElem_take];have Z : a + i < s.size := by have : s.data.size = s.size := rfl; omega
  exact Y (a + i) Z (by omega) (by omega)
 ·show 10 ^ _ <= 10 ^ 9
  refine Nat.pow_le_pow_right (by decide) ?_;rw [List.length_drop, List.length_take]; omega
def QIs (q : Rat) (v : Value) : Prop := ∃ (x y : Int) (one : Bool), v = .tuple #[.int .i64 x, .int .i64 y, .bool one] /\
 (one = true -> x = q.num /\ y = (q.den : Int) /\ (-1000000000 < x /\ x < 1000000000) /\ (0 < y /\ y < 1000000000))
theorem qed {q : Rat} {x y : Int} {v : Value} (h : v = .tuple #[.int .i64 x, .int .i64 y, .bool true]) (hx : x = q.num) (hy : y = (q.den : Int)) (Z : -1000000000 < x /\ x < 1000000000) (Y : y < 1000000000) : QIs q v :=
 ⟨x, y, true, h, fun _ => ⟨hx, hy, Z, by have := q.den_pos; omega, Y⟩⟩
theorem qot {q : Rat} {v : Value} (h : v = .tuple #[.int .i64 0, .int .i64 0, .bool false]) : QIs q v :=
 ⟨0, 0, false, h, fun h => by cases h⟩
theorem qQa (q : Rat) (hs : (RS q).size <= 1000000000) (w : World) :
 Calls Tryz.prog 52 #[.string (RS q)] w (Same (QIs q) w) := by
 obtain ⟨a, c, L⟩ := lof q;generalize RS q = s at *;have h7 : 0 < s.size := Nat.lt_of_lt_of_le (Nat.lt_of_le_of_lt (Nat.zero_le _) L.lt) L.le;have h8 := L.b1;have hb := L.lt;have ha := L.le;obtain ⟨c0, h0⟩ : ∃ c0 : Nat, s[0].toNat = c0 := ⟨_, rfl⟩;have n : c0 = 45 ↔ a = 1 := by rw [<- h0]; exact L.sign h7
 have R := hid L;obtain ⟨neg, x⟩ := zex (decide (q.num < 0));have o := hid x;have p : neg = decide (a = 1) := by rw [x]; simp only [L.neg]
 clear L x;rcases (by omega : a = 0 \/ a = 1) with rfl | rfl
 ·have t0 : ((c0 : Int) == 45) = false := by rw [beq_eq_false_iff_ne]; omega
  have hn : neg = false := p;subst hn;clear n p;go_enter Tryz.func52, Tryz.ntmps52;go_wp2_with fail;go_loop [2, 3, 5] (fun M r t5 => ∃ (i : Nat) (V : Int), r = .int .i64 0 /\ 0 <= i /\ i <= c /\ i <= 0 + 9 /\ t5 = .int .i64 i /\ M = .int .i64 V /\ Hid (V = (dsl s 0 i : Nat)) /\ 0 <= V /\ V < 1000000000) (fun _ _ t5 => s.size - (RowKit.intOf t5).toNat)
  case atStart => exact ⟨0, 0, rfl, Nat.le_refl _, by omega, by omega, rfl, rfl, by unfold Hid; rw [dsf]; rfl, by omega, by omega⟩
  case round =>
   obtain ⟨i, V, rfl, E, h4, g, rfl, rfl, O, e, y⟩ := hrel;rcases Nat.lt_or_ge i c with C | C
   ·have B : i < s.size := by omega
    have G : isDig s[i] := R.out.dig i B E C;unfold isDig at G;have Y : Hid (dsl s 0 (i + 1) = 10 * dsl s 0 i + (s[i].toNat - 48)) := dd0 s 0 i B E;obtain ⟨X, S⟩ : ∃ X : Nat, s[i].toNat = X := ⟨_, rfl⟩;rw [S] at G;have Q := hid S;have t1 : ((X : Int) != 47) = true := by rw [bne_iff_ne]; omega
    have d : ((X : Int) == 47) = false := by rw [beq_eq_false_iff_ne]; omega
    by_cases h9 : i = 0 + 9
    ·have M : ((i : Int) == 9) = true := by rw [beq_iff_eq]; omega
     clear Y h9;go_wp2_with fail
     go_ret3
     exact ⟨_, rfl, qot rfl, rfl⟩
    ·have M : ((i : Int) == 9) = false := by rw [beq_eq_false_iff_ne]; omega
     have l : i < 0 + 9 := by omega
     have J : Hid (10 * V + ((X : Int) - 48) = ((dsl s 0 (i + 1) : Nat) : Int)) := by
      unfold Hid; rw [Y.out, O.out, Q.out]; omega
     have hx : Hid (0 <= 10 * V + ((X : Int) - 48) /\ 10 * V + ((X : Int) - 48) < 1000000000) := by
      have := dl9 s 0 (i + 1) (fun k hk h1 h2 => R.out.dig k hk h1 (by omega)) (by omega);unfold Hid; rw [J.out]; omega
     clear Y h9;go_wp2_with fail
     go_round
     case rel => exact ⟨i + 1, _, rfl, by omega, by omega, by omega, by go_num, rfl, J, hx.out.1, hx.out.2⟩
     case measure => simp [RowKit.intOf]; omega
   ·have D : i = c := by omega
    have m : Hid (V = (q.num.natAbs : Nat)) := by rw [D] at O; have := R.out.num; unfold Hid; rw [O.out, this]
    subst D;have b : Hid (V = q.num) := by
     unfold Hid;have := of_decide_eq_false o.out.symm;rw [m.out]; omega
    have t : -1000000000 < V /\ V < 1000000000 := by omega
    clear O;rcases Nat.lt_or_ge i s.size with z | h3
    ·have v := R.out.slash z
     have Z := R.out.den z;obtain ⟨X, S⟩ : ∃ X : Nat, s[i].toNat = X := ⟨_, rfl⟩;have A : X = 47 := by rw [<- S, v]; rfl
     have t1 : ((X : Int) != 47) = false := by rw [bne_eq_false_iff_eq]; omega
     have d : ((X : Int) == 47) = true := by rw [beq_iff_eq]; omega
     have r : ((i : Int) == (s.size : Int)) = false := by rw [beq_eq_false_iff_ne]; omega
     have g : i + 1 < s.size := Z.1;have K := hid Z.2;clear A v Z;go_wp2_with fail;go_loop [2, 3, 5] (fun M r t5 => ∃ (k : Nat) (U : Int), M = .int .i64 (V) /\ i + 1 <= k /\ k <= s.size /\ k <= i + 1 + 9 /\ t5 = .int .i64 k /\ r = .int .i64 U /\ Hid (U = (dsl s (i + 1) k : Nat)) /\ 0 <= U /\ U < 1000000000) (fun _ _ t5 => s.size - (RowKit.intOf t5).toNat)
     case atStart => exact ⟨i + 1, 0, rfl, Nat.le_refl _, by omega, by omega, by go_num, rfl, by unfold Hid; rw [dsf]; rfl, by omega, by omega⟩
     case round =>
      obtain ⟨k, U, rfl, f, h5, h6, rfl, rfl, O, e, y⟩ := hrel;rcases Nat.lt_or_ge k s.size with N | N
      ·have G : isDig s[k] := R.out.dig2 k N (by omega)
       unfold isDig at G;have Y : Hid (dsl s (i + 1) (k + 1) = 10 * dsl s (i + 1) k + (s[k].toNat - 48)) := dd0 s (i + 1) k N f;obtain ⟨I, H⟩ : ∃ I : Nat, s[k].toNat = I := ⟨_, rfl⟩;rw [H] at G;have Q := hid H;by_cases h9 : k = i + 1 + 9
       ·have M : ((k : Int) - ((i : Int) + 1) == 9) = true := by rw [beq_iff_eq]; omega
        clear Y h9;go_wp2_with fail
        go_ret3
        exact ⟨_, rfl, qot rfl, rfl⟩
       ·have M : ((k : Int) - ((i : Int) + 1) == 9) = false := by rw [beq_eq_false_iff_ne]; omega
        have l : k < i + 1 + 9 := by omega
        have J : Hid (10 * U + ((I : Int) - 48) = ((dsl s (i + 1) (k + 1) : Nat) : Int)) := by
         unfold Hid; rw [Y.out, O.out, Q.out]; omega
        have hx : Hid (0 <= 10 * U + ((I : Int) - 48) /\ 10 * U + ((I : Int) - 48) < 1000000000) := by
         have := dl9 s (i + 1) (k + 1) (fun j hj h1 h2 => R.out.dig2 j hj (by omega)) (by omega);unfold Hid; rw [J.out]; omega
        clear Y h9;go_wp2_with fail
        go_round
        case rel => exact ⟨k + 1, _, rfl, by omega, by omega, by omega, by go_num, rfl, J, hx.out.1, hx.out.2⟩
        case measure => simp [RowKit.intOf]; omega
      ·have h : Hid (U = (q.den : Int)) := by
              have : k = s.size := by omega
              unfold Hid; rw [O.out, this, K.out]
       go_wp2_with fail
       go_ret3
       exact ⟨_, rfl, qed rfl b.out h.out t y, rfl⟩
    ·have Z : Hid ((1 : Int) = (q.den : Int)) := by
      have := R.out.den1 (by omega);unfold Hid; rw [this]; rfl
     have r : ((i : Int) == (s.size : Int)) = true := by rw [beq_iff_eq]; omega
     go_wp2_with fail
     go_ret3
     exact ⟨_, rfl, qed rfl b.out Z.out t (by omega), rfl⟩
 ·have t0 : ((c0 : Int) == 45) = true := by rw [beq_iff_eq]; omega
  have hn : neg = true := p;subst hn;clear n p;go_enter Tryz.func52, Tryz.ntmps52;go_wp2_with fail;go_loop [2, 3, 5] (fun M r t5 => ∃ (i : Nat) (V : Int), r = .int .i64 0 /\ 1 <= i /\ i <= c /\ i <= 1 + 9 /\ t5 = .int .i64 i /\ M = .int .i64 V /\ Hid (V = (dsl s 1 i : Nat)) /\ 0 <= V /\ V < 1000000000) (fun _ _ t5 => s.size - (RowKit.intOf t5).toNat)
  case atStart => exact ⟨1, 0, rfl, Nat.le_refl _, by omega, by omega, rfl, rfl, by unfold Hid; rw [dsf]; rfl, by omega, by omega⟩
  case round =>
   obtain ⟨i, V, rfl, E, h4, g, rfl, rfl, O, e, y⟩ := hrel;rcases Nat.lt_or_ge i c with C | C
   ·have B : i < s.size := by omega
    have G : isDig s[i] := R.out.dig i B E C;unfold isDig at G;have Y : Hid (dsl s 1 (i + 1) = 10 * dsl s 1 i + (s[i].toNat - 48)) := dd0 s 1 i B E;obtain ⟨X, S⟩ : ∃ X : Nat, s[i].toNat = X := ⟨_, rfl⟩;rw [S] at G;have Q := hid S;have t1 : ((X : Int) != 47) = true := by rw [bne_iff_ne]; omega
    have d : ((X : Int) == 47) = false := by rw [beq_eq_false_iff_ne]; omega
    by_cases h9 : i = 1 + 9
    ·have M : ((i : Int) - 1 == 9) = true := by rw [beq_iff_eq]; omega
     clear Y h9;go_wp2_with fail
     go_ret3
     exact ⟨_, rfl, qot rfl, rfl⟩
    ·have M : ((i : Int) - 1 == 9) = false := by rw [beq_eq_false_iff_ne]; omega
     have l : i < 1 + 9 := by omega
     have J : Hid (10 * V + ((X : Int) - 48) = ((dsl s 1 (i + 1) : Nat) : Int)) := by
      unfold Hid; rw [Y.out, O.out, Q.out]; omega
     have hx : Hid (0 <= 10 * V + ((X : Int) - 48) /\ 10 * V + ((X : Int) - 48) < 1000000000) := by
      have := dl9 s 1 (i + 1) (fun k hk h1 h2 => R.out.dig k hk h1 (by omega)) (by omega);unfold Hid; rw [J.out]; omega
     clear Y h9;go_wp2_with fail
     go_round
     case rel => exact ⟨i + 1, _, rfl, by omega, by omega, by omega, by go_num, rfl, J, hx.out.1, hx.out.2⟩
     case measure => simp [RowKit.intOf]; omega
   ·have D : i = c := by omega
    have m : Hid (V = (q.num.natAbs : Nat)) := by rw [D] at O; have := R.out.num; unfold Hid; rw [O.out, this]
    subst D;have b : Hid (-V = q.num) := by
     unfold Hid;have := of_decide_eq_true o.out.symm;rw [m.out]; omega
    have t : -1000000000 < -V /\ -V < 1000000000 := by omega
    clear O;rcases Nat.lt_or_ge i s.size with z | h3
    ·have v := R.out.slash z
     have Z := R.out.den z;obtain ⟨X, S⟩ : ∃ X : Nat, s[i].toNat = X := ⟨_, rfl⟩;have A : X = 47 := by rw [<- S, v]; rfl
     have t1 : ((X : Int) != 47) = false := by rw [bne_eq_false_iff_eq]; omega
     have d : ((X : Int) == 47) = true := by rw [beq_iff_eq]; omega
     have r : ((i : Int) == (s.size : Int)) = false := by rw [beq_eq_false_iff_ne]; omega
     have g : i + 1 < s.size := Z.1;have K := hid Z.2;clear A v Z;go_wp2_with fail;go_loop [2, 3, 5] (fun M r t5 => ∃ (k : Nat) (U : Int), M = .int .i64 (-V) /\ i + 1 <= k /\ k <= s.size /\ k <= i + 1 + 9 /\ t5 = .int .i64 k /\ r = .int .i64 U /\ Hid (U = (dsl s (i + 1) k : Nat)) /\ 0 <= U /\ U < 1000000000) (fun _ _ t5 => s.size - (RowKit.intOf t5).toNat)
     case atStart => exact ⟨i + 1, 0, rfl, Nat.le_refl _, by omega, by omega, by go_num, rfl, by unfold Hid; rw [dsf]; rfl, by omega, by omega⟩
     case round =>
      obtain ⟨k, U, rfl, f, h5, h6, rfl, rfl, O, e, y⟩ := hrel;rcases Nat.lt_or_ge k s.size with N | N
      ·have G : isDig s[k] := R.out.dig2 k N (by omega)
       unfold isDig at G;have Y : Hid (dsl s (i + 1) (k + 1) = 10 * dsl s (i + 1) k + (s[k].toNat - 48)) := dd0 s (i + 1) k N f;obtain ⟨I, H⟩ : ∃ I : Nat, s[k].toNat = I := ⟨_, rfl⟩;rw [H] at G;have Q := hid H;by_cases h9 : k = i + 1 + 9
       ·have M : ((k : Int) - ((i : Int) + 1) == 9) = true := by rw [beq_iff_eq]; omega
        clear Y h9;go_wp2_with fail
        go_ret3
        exact ⟨_, rfl, qot rfl, rfl⟩
       ·have M : ((k : Int) - ((i : Int) + 1) == 9) = false := by rw [beq_eq_false_iff_ne]; omega
        have l : k < i + 1 + 9 := by omega
        have J : Hid (10 * U + ((I : Int) - 48) = ((dsl s (i + 1) (k + 1) : Nat) : Int)) := by
         unfold Hid; rw [Y.out, O.out, Q.out]; omega
        have hx : Hid (0 <= 10 * U + ((I : Int) - 48) /\ 10 * U + ((I : Int) - 48) < 1000000000) := by
         have := dl9 s (i + 1) (k + 1) (fun j hj h1 h2 => R.out.dig2 j hj (by omega)) (by omega);unfold Hid; rw [J.out]; omega
        clear Y h9;go_wp2_with fail
        go_round
        case rel => exact ⟨k + 1, _, rfl, by omega, by omega, by omega, by go_num, rfl, J, hx.out.1, hx.out.2⟩
        case measure => simp [RowKit.intOf]; omega
      ·have h : Hid (U = (q.den : Int)) := by
              have : k = s.size := by omega
              unfold Hid; rw [O.out, this, K.out]
       go_wp2_with fail
       go_ret3
       exact ⟨_, rfl, qed rfl b.out h.out t y, rfl⟩
    ·have Z : Hid ((1 : Int) = (q.den : Int)) := by
      have := R.out.den1 (by omega);unfold Hid; rw [this]; rfl
     have r : ((i : Int) == (s.size : Int)) = true := by rw [beq_iff_eq]; omega
     go_wp2_with fail
     go_ret3
     exact ⟨_, rfl, qed rfl b.out Z.out t (by omega), rfl⟩
theorem RmR {n : Int} {d g : Nat} (X : 0 < d) (Y : g = Nat.gcd n.natAbs d) {x y : Int} (hx : x = n.tdiv (g : Int)) (hy : y = ((d / g : Nat) : Int)) :
 (y = 1 -> IS x = RS (mkRat n d)) /\ (y ≠ 1 -> (IS x ++ ⟨#[47]⟩) ++ IS y = RS (mkRat n d)) := by
 have h := Rb0 n d (by omega);rw [<- Y] at h;have Z : n / (g : Int) = x := by
  rw [hx];have : (g : Int) ∣ n := by
   rw [Y]; exact Int.ofNat_dvd_left.2 (Nat.gcd_dvd_left _ _)
  exact (Int.tdiv_eq_ediv_of_dvd this).symm
 rw [Z] at h;refine ⟨fun h1 => ?_, fun h1 => ?_⟩
 ·rw [if_pos (by omega)] at h
  exact bet (by rw [Rlt, h, Ilt])
 ·rw [if_neg (by omega)] at h
  apply bet;rw [Rlt, h, ba0, ba0, Ilt, Ilt, hy, ib0];simp
theorem Is2 {x : Int} (h : -10000000000000000000 < x /\ x < 10000000000000000000) : (IS x).size <= 20 := by
 rw [Ise]
 exact ill (k := 19) (by decide) (by have : (10 : Nat) ^ 19 = 10000000000000000000 := by decide
                                     omega)
theorem sQa (n : Int) (d : Nat) (Q : Int) (I : Q = (d : Int)) (B : 0 < d) (hn : -2000000000000000000 <= n /\ n <= 2000000000000000000) (h0 : Q <= 1000000000000000000) (w : World) (hg : Good w) :
 Calls Tryz.prog 53 #[.int .i64 n, .int .i64 Q] w (Ret (fun v _ => v = .string (RS (mkRat n d))) w) := by
 have a : 0 < Q := by omega
 have X := hid I;clear I;go_enter Tryz.func53, Tryz.ntmps53;obtain ⟨G, E⟩ := zex (Nat.gcd n.natAbs d);have K : 0 < G := by rw [E]; exact Nat.gcd_pos_of_pos_right _ B
 have L : G <= d := by rw [E]; exact Nat.le_of_dvd B (Nat.gcd_dvd_right _ _)
 have q := hid E;clear E;go_wp2_with fail;go_loopw [5, 6] (fun t5 t6 wr => ∃ m k : Int, t5 = .int .i64 m /\ t6 = .int .i64 k /\ Hid (Nat.gcd m.natAbs k.natAbs = G) /\ (-2000000000000000000 <= m /\ m <= 2000000000000000000) /\ (-2000000000000000000 <= k /\ k <= 2000000000000000000) /\ ∃ j, wr = w.drewN j) (fun _ t6 _ => (RowKit.intOf t6).natAbs)
 case atStart => exact ⟨n, Q, rfl, rfl, by unfold Hid; rw [q.out, X.out]; rfl, hn, by omega, 0, rfl⟩
 case round =>
  obtain ⟨m, k, rfl, rfl, p, hm, hk, j, rfl⟩ := hrel;by_cases hz : k = 0
  ·subst hz
   have J : m.natAbs = G := by have := p.out; rwa [Int.natAbs_zero, Nat.gcd_zero_right] at this
   have A := hg.drewN j;obtain ⟨x, hx⟩ := zex (n.tdiv (G : Int));obtain ⟨y, hy⟩ := zex (Q / (G : Int) : Int);have Y : y = ((d / G : Nat) : Int) := by rw [hy, X.out]; rfl
   have O := hid (RmR B q.out hx Y);have H := tlm (y := (G : Int)) (x := n) (M := 2000000000000000001) (by omega);rw [<- hx] at H;have h4 : 0 <= y /\ y <= 1000000000000000000 := by
    rw [Y];have h1 : d / G <= d := Nat.div_le_self _ _;have := X.out;generalize d / G = z at *;omega
   obtain ⟨N, S⟩ := zex ((G : Int) : Int);have o : 1 <= N := by omega
   have l : ¬ N = 0 := by omega
   have i : (N == 0) = false := by rw [beq_eq_false_iff_ne]; omega
   rw [<- S] at hx hy;have r := H;rw [hx] at r;have c := hid hx;have b := hid hy;have h2 := Is2 (x := x) (by omega);have h3 := Is2 (x := y) (by omega);rcases Int.lt_or_le m 0 with h | g
   case' inl =>
    have R : Hid (-m = N) := by unfold Hid; omega
    clear J K L S hx hy Y;go_upto_region 6 with fail;rw [R.out]
   case' inr =>
    have R : m = N := by omega
    subst R;clear J K L S hx hy Y;go_upto_region 6 with fail
   all_goals
    go_quiet (fail);rw [<- c.out, <- b.out];have U := A.drewN nq;have V : Below w.heap.size w ((w.drewN j).drewN nq) := (bdN w j).trans (bdN (w.drewN j) nq);generalize (w.drewN j).drewN nq = wq at *;by_cases hy1 : y = 1
    ·have D := hid (O.out.1 hy1)
     have ty : (y == 1) = true := by rw [beq_iff_eq]; exact hy1
     clear hy1;go_wp2_with fail;refine (iay x (by omega) (by omega) _ U).mono ?_;rintro e w2 ⟨_, rfl, rfl, Z⟩;rw [D.out];go_wp2_with fail;go_ret;exact ⟨_, rfl, rfl, (zbt V Z)⟩
    ·have D := hid (O.out.2 hy1)
     have ty : (y == 1) = false := by rw [beq_eq_false_iff_ne]; exact hy1
     clear hy1;go_wp2_with fail;refine (iay x (by omega) (by omega) _ U).mono ?_;rintro e w2 ⟨_, rfl, rfl, Z⟩;go_wp2_with fail;refine (iay y (by omega) (by omega) _ (U.below Z)).mono ?_;rintro e w3 ⟨_, rfl, rfl, C⟩;go_wp2_with fail;go_ret;exact ⟨_, rfl, congrArg Value.string D.out, V.trans (((zbt Z C)).mono V.size)⟩
  ·have h5 : (k != 0) = true := by rw [bne_iff_ne]; exact hz
   have h6 : (k == 0) = false := by rw [beq_eq_false_iff_ne]; exact hz
   have t : (m.tmod k).natAbs < k.natAbs := by rw [tnA]; exact Nat.mod_lt _ (by omega)
   have f : Hid (Nat.gcd k.natAbs (m.tmod k).natAbs = G) := by
    unfold Hid; rw [tnA, gsp]; exact p.out
   have s : -2000000000000000000 <= m.tmod k /\ m.tmod k <= 2000000000000000000 := by omega
   go_wp2_with fail;go_quiet (fail);go_wp2_with fail;go_roundw
   case rel => exact ⟨k, m.tmod k, rfl, rfl, f, hk, s, dsp ⟨j, rfl⟩ _⟩
   case measure => exact t
theorem Il9 {a : Int} (h : (IS a).size <= 9) : -1000000000 < a /\ a < 1000000000 := by
 have Z := nAl (k := 9) (by decide) (by rw [<- Ise]; exact h);have Y : (10 : Nat) ^ 9 = 1000000000 := by decide
 omega
theorem s2a (a b n : Int) (d : Nat) (Y : Int) (t : Y = (d : Int)) (hd : 0 < d) (I : (IS a).size <= 9) (H : (IS b).size <= 9)
 (R : (b = Y /\ a = n) \/ (b = -Y /\ a = -n)) (w : World) (hg : Good w) :
 Calls Tryz.prog 121 #[.string (IS a), .string (IS b)] w (Ret (fun v _ => v = .string (RS (mkRat n d))) w) := by
 have s := Il9 I;have r := Il9 H;have h9 : 0 < Y := by omega
 have hn : -1000000000 < n /\ n < 1000000000 := by omega
 have ha : Y < 1000000000 := by omega
 have U := hid t;clear t;obtain ⟨G, f⟩ := zex (Nat.gcd n.natAbs d);have c : 0 < G := by rw [f]; exact Nat.gcd_pos_of_pos_right _ hd
 have h := hid f;clear f;obtain ⟨l, q⟩ := zex ((n.natAbs : Int) : Int);have g : Hid (l.natAbs = n.natAbs) := by unfold Hid; omega
 have hc : 0 <= l /\ l < 1000000000 := by omega
 have S := hid q;clear q;rcases R with ⟨B, A⟩ | ⟨B, A⟩
 case' inl =>
  have B := B.symm;have A := A.symm;subst B A;have t1 : decide (Y < 0) = false := by rw [decide_eq_false_iff_not]; omega
  go_enter Tryz.func121, Tryz.ntmps121;go_wp2_with fail;refine (aay n (by omega) _).mono ?_;rintro e w1 ⟨_, rfl, rfl, Q⟩;go_wp2_with fail;refine (aay Y (by omega) _).mono ?_;rintro e D ⟨_, rfl, rfl, Z⟩;go_upto_region 5 with fail;clear s r t1 I H
 case' inr =>
  have t1 : decide (b < 0) = true := by rw [decide_eq_true_iff]; omega
  have E1 : Hid (-b = Y) := by unfold Hid; omega
  have E2 : Hid (-a = n) := by unfold Hid; omega
  clear B A;go_enter Tryz.func121, Tryz.ntmps121;go_wp2_with fail;refine (aay a (by omega) _).mono ?_;rintro e w1 ⟨_, rfl, rfl, Q⟩;go_wp2_with fail;refine (aay b (by omega) _).mono ?_;rintro e D ⟨_, rfl, rfl, Z⟩;go_upto_region 5 with fail;rw [E1.out, E2.out];clear E1 E2 s r t1 I H
 all_goals
  have N := zbt Q Z;have h2 := hg.below N;clear Q Z;rcases Int.lt_or_le n 0 with V | p
  case' inl =>
   have t2 : decide (n < 0) = true := by rw [decide_eq_true_iff]; exact V
   have X : Hid (-n = l) := by have := S.out; unfold Hid; omega
   go_wp2_with fail;rw [X.out];clear V t2 X
  case' inr =>
   have t2 : decide (n < 0) = false := by rw [decide_eq_false_iff_not]; omega
   have X : n = l := by have := S.out; omega
   clear S;subst X;go_wp2_with fail;clear p t2
  all_goals
   go_loopw [9, 10] (fun t5 t6 wr => ∃ m k : Int, t5 = .int .i64 m /\ t6 = .int .i64 k /\ Hid (Nat.gcd m.natAbs k.natAbs = G) /\ (0 <= m /\ m <= 1000000000) /\ (0 <= k /\ k <= 1000000000) /\ ∃ j, wr = D.drewN j) (fun _ t6 _ => (RowKit.intOf t6).natAbs)
   case atStart => exact ⟨_, Y, rfl, rfl, by unfold Hid; rw [U.out]; first | (rw [g.out, h.out]; rfl) | (rw [h.out]; rfl), by omega, by omega, 0, rfl⟩
   case round =>
    obtain ⟨m, k, rfl, rfl, HM, hm, hk, j, rfl⟩ := hrel;by_cases hz : k = 0
    ·subst hz
     have R : m.natAbs = G := by have := HM.out; rwa [Int.natAbs_zero, Nat.gcd_zero_right] at this
     have h3 := h2.drewN j;have K : m = (G : Int) := by omega
     obtain ⟨x, hx⟩ := zex (n.tdiv m);obtain ⟨y, hy⟩ := zex (Y / m : Int);have E : y = ((d / G : Nat) : Int) := by rw [hy, U.out, K]; rfl
     have C := hid (RmR hd h.out (x := x) (by rw [hx, K]) E);have o := tlm (y := m) (x := n) (M := 1000000001) (by omega);have hh := o;rw [<- hx] at o;have hi : 0 <= y /\ y <= 1000000000 := by
      rw [E];have h1 : d / G <= d := Nat.div_le_self _ _;have := U.out;generalize d / G = z at *;omega
     have h6 : 1 <= m := by omega
     have h7 : ¬ m = 0 := by omega
     have h8 : (m == 0) = false := by rw [beq_eq_false_iff_ne]; omega
     have HX := hid hx;have HY := hid hy;have he := Is2 (x := x) (by omega);have hf := Is2 (x := y) (by omega);clear R c hx hy E K;go_upto_region 10 with fail;go_quiet (fail);rw [<- HX.out, <- HY.out];have L := h3.drewN nq;have O : Below w.heap.size w ((D.drewN j).drewN nq) := N.trans (((bdN D j).trans (bdN (D.drewN j) nq)).mono N.size);generalize (D.drewN j).drewN nq = wq at *;by_cases hy1 : y = 1
     ·have i := hid (C.out.1 hy1)
      have ty : (y == 1) = true := by rw [beq_iff_eq]; exact hy1
      clear hy1;go_wp2_with fail;refine (iay x (by omega) (by omega) _ L).mono ?_;rintro e w3 ⟨_, rfl, rfl, Z⟩;rw [i.out];go_wp2_with fail;go_ret;exact ⟨_, rfl, rfl, (zbt O Z)⟩
     ·have i := hid (C.out.2 hy1)
      have ty : (y == 1) = false := by rw [beq_eq_false_iff_ne]; exact hy1
      clear hy1;go_wp2_with fail;refine (iay x (by omega) (by omega) _ L).mono ?_;rintro e w3 ⟨_, rfl, rfl, Z⟩;go_wp2_with fail;refine (iay y (by omega) (by omega) _ (L.below Z)).mono ?_;rintro e w4 ⟨_, rfl, rfl, h0⟩;go_wp2_with fail;go_ret;exact ⟨_, rfl, congrArg Value.string i.out, O.trans (((zbt Z h0)).mono O.size)⟩
    ·have hj : (k != 0) = true := by rw [bne_iff_ne]; exact hz
     have hl : (k == 0) = false := by rw [beq_eq_false_iff_ne]; exact hz
     have J : m % k = m.tmod k := (Int.tmod_eq_emod_of_nonneg hm.1).symm;have h4 : (m % k).natAbs < k.natAbs := by rw [J, tnA]; exact Nat.mod_lt _ (by omega)
     have HN : Hid (Nat.gcd k.natAbs (m % k).natAbs = G) := by
      unfold Hid; rw [J, tnA, gsp]; exact HM.out
     have h5 : 0 <= m % k /\ m % k <= 1000000000 := by have := Int.emod_nonneg m hz; omega
     have hb : 1 <= k := by omega
     clear J;go_wp2_with fail;go_quiet (fail);go_wp2_with fail;go_roundw
     case rel => exact ⟨k, m % k, rfl, rfl, HN, hk, h5, dsp ⟨j, rfl⟩ _⟩
     case measure => exact h4
theorem Ism {x n : Int} {k : Nat} (h : x.natAbs <= n.natAbs) (V : (IS n).size <= k) (X : 0 < k) : (IS x).size <= k + 1 := by
 have Z := ase V;have Y := nsm h Z X;rw [Ise, ib0, decDigits_length] at Y;rw [Ise, iln];split <;> omega
theorem gft {n : Int} {d G : Nat} (X : 0 < d) (Z : G = Nat.gcd n.natAbs d) :
 0 < G /\ G <= d /\ n / (G : Int) = n.tdiv (G : Int) /\ (n / (G : Int)).natAbs <= n.natAbs /\ (d : Int) / (G : Int) = ((d / G : Nat) : Int) := by
 have V : 0 < G := by rw [Z]; exact Nat.gcd_pos_of_pos_right _ X
 have U : G <= d := by rw [Z]; exact Nat.le_of_dvd X (Nat.gcd_dvd_right _ _)
 have Y : (G : Int) ∣ n := by rw [Z]; exact Int.ofNat_dvd_left.2 (Nat.gcd_dvd_left _ _)
 have e := Int.tdiv_eq_ediv_of_dvd Y;exact ⟨V, U, e.symm, by rw [<- e, Int.natAbs_tdiv]; exact Nat.div_le_self _ _, rfl⟩
theorem fQa (a b n : Int) (d : Nat) (Z : Int) (Y : Z = (d : Int)) (hd : 0 < d) (h7 : (IS a).size <= 90000) (h8 : (IS b).size <= 90000)
 (V : (b = Z /\ a = n) \/ (b = -Z /\ a = -n)) (w : World) (hg : Good w) :
 Calls Tryz.prog 79 #[.string (IS a), .string (IS b)] w (Ret (fun v _ => v = .string (RS (mkRat n d))) w) := by
 by_cases hq : (IS a).size <= 9 /\ (IS b).size <= 9
 ·obtain ⟨h1, h2⟩ := hq
  have i := hid V;have g := hid Y;clear V Y;go_enter Tryz.func79, Tryz.ntmps79;go_wp2_with fail;refine (s2a a b n d Z g.out hd h1 h2 i.out _ hg).mono ?_;rintro e w1 ⟨_, rfl, rfl, X⟩;go_wp2_with fail;go_ret;exact ⟨_, rfl, rfl, X⟩
 ·obtain ⟨G, j⟩ := zex (Nat.gcd n.natAbs d)
  obtain ⟨h3, B, E, D, h0⟩ := gft hd j;have C : Hid (((Int.gcd n Z : Nat) : Int) = (G : Int)) := by unfold Hid; rw [j, Y]; rfl
  obtain ⟨x, hx⟩ := zex (n / (G : Int));obtain ⟨y, hy⟩ := zex (Z / (G : Int) : Int);have L : y = ((d / G : Nat) : Int) := by rw [hy, Y]; rfl
  have K := hid (RmR hd j (x := x) (by rw [hx, E]) L);have h9 : (IS n).size <= 90001 := by
   rcases V with ⟨_, h⟩ | ⟨_, h⟩
   ·rw [<- h]; omega
   ·rw [show n = -a by omega]; exact nse h7
  have l : (IS Z).size <= 90001 := by
   rcases V with ⟨h, _⟩ | ⟨h, _⟩
   ·rw [<- h]; omega
   ·rw [show Z = -b by omega]; exact nse h8
  have h6 : (IS (G : Int)).size <= 90001 := nsm B (by rw [<- Y]; exact l) (by omega);have hb : (IS x).size <= 90002 := Ism (by rw [hx]; exact D) h9 (by omega);have hc : (IS y).size <= 90002 := Ism (n := Z) (by rw [L, Y]; exact Nat.div_le_self d G) l (by omega);have ha : 0 < Z := by omega
  have k := Ia0 y;obtain ⟨c, p⟩ := zex ((G : Int) : Int);rw [<- p] at C hx hy h6;have H : Hid (c ≠ 0) := by unfold Hid; omega
  have HX := hid hx;have HY := hid hy;have o : ¬ (IS a).size <= 9 \/ ((IS a).size <= 9 /\ ¬ (IS b).size <= 9) := by omega
  clear j E D h0 h3 B L Y hx hy p hq;have m : (IS a).size <= 100000 := by omega
  have U : (IS b).size <= 100000 := by omega
  rcases V with ⟨J, I⟩ | ⟨J, I⟩
  case' inl =>
   have J := J.symm;have I := I.symm;subst J I;have h4 : ¬ Z < 0 := by omega
   rcases o with hq | ⟨hq, h5⟩
   all_goals
    go_enter Tryz.func79, Tryz.ntmps79;go_wp2_with fail;refine ((sRa Z U _).mono fun _ _ h => h.ret).mono ?_;rintro e w1 ⟨_, rfl, rfl, X⟩;go_upto_region 5 with fail
  case' inr =>
   have h4 : b < 0 := by omega
   have E1 : Hid (-b = Z) := by unfold Hid; omega
   have E2 : Hid (-a = n) := by unfold Hid; omega
   clear J I;rcases o with hq | ⟨hq, h5⟩
   all_goals
    go_enter Tryz.func79, Tryz.ntmps79;go_wp2_with fail;refine ((sRa b U _).mono fun _ _ h => h.ret).mono ?_;rintro e w0 ⟨_, rfl, rfl, O⟩;go_wp2_with fail;refine ((nRa a m _).mono fun _ _ h => h.ret).mono ?_;rintro e he ⟨_, rfl, rfl, S⟩;rw [E2.out];go_wp2_with fail;refine ((nRa b U _).mono fun _ _ h => h.ret).mono ?_;rintro e w1 ⟨_, rfl, rfl, R⟩;rw [E1.out];have X := O.trans (((zbt S R)).mono O.size);clear O S R;go_upto_region 5 with fail
  all_goals
   clear hq;have r := hg.below X;go_wp2_with fail;refine (gRa n Z (by omega) (by omega) _ r).mono ?_;rintro e w2 ⟨_, rfl, rfl, N⟩;rw [C.out];have Q := r.below N;have A := zbt X N;clear X N;go_wp2_with fail;refine (dRa n c (by omega) (by omega) H.out _ Q).mono ?_;rintro e w3 ⟨_, rfl, rfl, M⟩;rw [<- HX.out];have q := Q.below M;have z := zbt A M;clear A M;go_wp2_with fail;refine (dRa Z c (by omega) (by omega) H.out _ q).mono ?_;rintro e w4 ⟨_, rfl, rfl, t⟩;rw [<- HY.out];have s := zbt z t;clear z t;by_cases hy1 : y = 1
   ·have f := hid (K.out.1 hy1)
    rw [decide_eq_true hy1] at k;clear hy1;go_wp2_with fail;go_ret;exact ⟨_, rfl, congrArg Value.string f.out, s⟩
   ·have f := hid (K.out.2 hy1)
    rw [decide_eq_false hy1] at k;clear hy1;go_wp2_with fail;go_ret;exact ⟨_, rfl, congrArg Value.string f.out, s⟩
end Go.Proofs.YtmcbeajdloaliaaGreatDoor
