/- Klipperef01: its exported functions. -/
import Derived.Test.YtccngnjkehibiaaGreatDoorD3
import Derived.Test.YtccngnjkehibiaaGreatDoorI1
import Derived.BigRegion
/- The walks over the reference's layer 1: Split, Small, brief, Of, Sign, Neg, Abs. -/
namespace Go.Proofs.YtccngnjkehibiaaGreatDoor
open Go.RowKit Go.Lib

theorem tup2 {a b : Bool} {s t : ByteArray} (h1 : a = b) (h2 : s = t) : Value.tuple #[.bool a, .string s] = Value.tuple #[.bool b, .string t] := by rw [h1, h2]

theorem head45 (s : ByteArray) (h : 0 < s.size) : hasPrefix s.data.toList [45] = decide (s[0].toNat = 45) := by
  have e : s.data.toList = s[0] :: s.data.toList.tail := by
    have h2 : 0 < s.data.toList.length := by rw [Array.length_toList]; exact h
    conv => lhs; rw [← List.cons_head_tail (List.ne_nil_of_length_pos h2)]
    congr 1
    rw [List.head_eq_getElem]; rfl
  rw [e]
  unfold hasPrefix
  simp only [List.isPrefixOf, Bool.and_true]
  by_cases hc : s[0].toNat = 45
  · have : s[0] = 45 := UInt8.toNat_inj.1 (by rw [hc]; rfl)
    simp [this]
  · have : ¬ (45 : UInt8) = s[0] := fun h => hc (by rw [← h]; rfl)
    simp [hc, this]

end Go.Proofs.YtccngnjkehibiaaGreatDoor

/- The walks over the reference's layer 1: Small, brief. -/
namespace Go.Proofs.YtccngnjkehibiaaGreatDoor
open Go.RowKit Go.Lib

theorem dec_lim {n : Nat} {k : Nat} (hk : 0 < k) (h : (decDigits n).length ≤ k) : n < 10 ^ k := (len_decDigits_le n k hk).1 h

theorem tup2i {a b : Int} {s t : Bool} (h1 : a = b) (h2 : s = t) : Value.tuple #[.int .i64 a, .bool s] = Value.tuple #[.int .i64 b, .bool t] := by rw [h1, h2]

end Go.Proofs.YtccngnjkehibiaaGreatDoor

/- The walks over the reference's layer 1: Add, Sub, Compare, Mul. -/
namespace Go.Proofs.YtccngnjkehibiaaGreatDoor
open Go.RowKit Go.Lib

theorem lm4_lenk {n : Int} {k : Nat} (hk : 0 < k) (h : (IS n).size ≤ k) : (lm B4 n.natAbs).length ≤ k := by
  rw [IS_size] at h
  have h1 := natAbs_lt_of_len hk h
  refine lm_len_le B4 _ _ two_le_B4 (Nat.lt_of_lt_of_le h1 ?_)
  exact Nat.pow_le_pow_left (by decide) _
theorem lm4_len {n : Int} (h : (IS n).size ≤ 100000) : (lm B4 n.natAbs).length ≤ 100000 := lm4_lenk (by decide) h

theorem dec_size {n : Int} (h : (IS n).size ≤ 100000) : (BS (decDigits n.natAbs)).size ≤ 100000 := by
  have := itoa_len n
  rw [IS_size] at h
  rw [BS_size, decDigits_length]; split at this <;> omega

theorem lm4_add_len {a b n : Nat} (ha : (lm B4 a).length ≤ n) (hb : (lm B4 b).length ≤ n) : (lm B4 (a + b)).length ≤ n + 1 := by
  refine lm_len_le B4 _ _ two_le_B4 ?_
  have h1 := Nat.lt_of_lt_of_le (lm_len_lt B4 a two_le_B4) (Nat.pow_le_pow_right (show 0 < B4 by decide) ha)
  have h2 := Nat.lt_of_lt_of_le (lm_len_lt B4 b two_le_B4) (Nat.pow_le_pow_right (show 0 < B4 by decide) hb)
  have h3 : 2 * B4 ^ n ≤ B4 * B4 ^ n := Nat.mul_le_mul_right _ (by decide)
  rw [Nat.pow_succ, Nat.mul_comm]
  omega

theorem lm4_mono_len {a b n : Nat} (h : a ≤ b) (hb : (lm B4 b).length ≤ n) : (lm B4 a).length ≤ n :=
  Nat.le_trans (lm_len_le B4 _ _ two_le_B4 (Nat.lt_of_le_of_lt h (lm_len_lt B4 b two_le_B4))) hb

end Go.Proofs.YtccngnjkehibiaaGreatDoor

/- The walks over the reference's layer 1: Sub, Compare, Mul. -/
namespace Go.Proofs.YtccngnjkehibiaaGreatDoor
open Go.RowKit Go.Lib

theorem neg_size {n : Int} {k : Nat} (h : (IS n).size ≤ k) : (IS (-n)).size ≤ k + 1 := by
  have h1 := itoa_len n
  have h2 := itoa_len (-n)
  rw [IS_size] at h ⊢
  rw [Int.natAbs_neg] at h2
  split at h1 <;> split at h2 <;> omega

theorem sub_sign (a b : Int) : (a - b).sign = cmpZ a b := by
  unfold cmpZ
  split
  · exact Int.sign_eq_neg_one_of_neg (by omega)
  · split
    · exact Int.sign_eq_one_of_pos (by omega)
    · rw [show a - b = 0 by omega]; rfl

theorem sub_size {a b : Int} {k : Nat} (hk : 0 < k) (ha : (IS a).size ≤ k) (hb : (IS b).size ≤ k) : (IS (a - b)).size ≤ k + 2 := by
  rw [IS_size] at *
  have h1 := natAbs_lt_of_len hk ha
  have h2 := natAbs_lt_of_len hk hb
  refine itoa_len_le (k := k + 1) (by omega) ?_
  rw [Nat.pow_succ]
  omega

theorem lm4_mul_len {a b n m : Nat} (ha : (lm B4 a).length ≤ n) (hb : (lm B4 b).length ≤ m) : (lm B4 (a * b)).length ≤ n + m := by
  refine lm_len_le B4 _ _ two_le_B4 ?_
  have h1 := Nat.lt_of_lt_of_le (lm_len_lt B4 a two_le_B4) (Nat.pow_le_pow_right (show 0 < B4 by decide) ha)
  have h2 := Nat.lt_of_lt_of_le (lm_len_lt B4 b two_le_B4) (Nat.pow_le_pow_right (show 0 < B4 by decide) hb)
  rw [Nat.pow_add]
  exact Nat.mul_lt_mul_of_lt_of_le h1 (Nat.le_of_lt h2) (by have := Nat.pow_pos (n := m) (show 0 < B4 by decide); omega)

theorem mul_len18 {a b : Int} (h : (BS (decDigits a.natAbs)).size + (BS (decDigits b.natAbs)).size ≤ 18) : -1000000000000000000 < a * b ∧ a * b < 1000000000000000000 := by
  rw [BS_size, BS_size] at h
  have h1 := dec_lim (n := a.natAbs) (List.length_pos_iff.2 (decDigits_ne_nil _)) (Nat.le_refl _)
  have h2 := dec_lim (n := b.natAbs) (List.length_pos_iff.2 (decDigits_ne_nil _)) (Nat.le_refl _)
  have h3 : a.natAbs * b.natAbs < 10 ^ 18 := by
    refine Nat.lt_of_lt_of_le (Nat.mul_lt_mul_of_lt_of_le h1 (Nat.le_of_lt h2) (Nat.lt_of_le_of_lt (Nat.zero_le _) h2)) ?_
    rw [← Nat.pow_add]
    exact Nat.pow_le_pow_right (by decide) h
  rw [← Int.natAbs_mul] at h3
  have h4 : (10 : Nat) ^ 18 = 1000000000000000000 := by decide
  omega

end Go.Proofs.YtccngnjkehibiaaGreatDoor

/- The walks over the reference's layer 1: DivMod. -/
namespace Go.Proofs.YtccngnjkehibiaaGreatDoor
open Go.RowKit Go.Lib

theorem tup2s {a b c d : ByteArray} (h1 : a = c) (h2 : b = d) : Value.tuple #[.string a, .string b] = Value.tuple #[.string c, .string d] := by rw [h1, h2]

theorem tdiv_lim {x y : Int} {M : Int} (hx : -M < x ∧ x < M) : -M < x.tdiv y ∧ x.tdiv y < M := by
  have h : (x.tdiv y).natAbs ≤ x.natAbs := by
    rw [Int.natAbs_tdiv]; exact Nat.div_le_self _ _
  omega

theorem tmod_lim {x y : Int} (hy : y ≠ 0) : (x.tmod y).natAbs < y.natAbs := by rw [tmod_natAbs']; exact Nat.mod_lt _ (by omega)
  where tmod_natAbs' : (x.tmod y).natAbs = x.natAbs % y.natAbs := Int.natAbs_tmod ..

theorem tdm_pos {x y : Int} (hy : y ≠ 0) (h : 0 ≤ x.tmod y) : x.tdiv y = x / y ∧ x.tmod y = x % y := by
  have h1 := tmod_lim (x := x) hy
  have h2 := Int.mul_tdiv_add_tmod x y
  rcases Int.lt_or_le 0 y with hp | hn
  · have := (Int.ediv_emod_unique (a := x) (b := y) (r := x.tmod y) (q := x.tdiv y) hp).2 ⟨by omega, h, by omega⟩
    exact ⟨this.1.symm, this.2.symm⟩
  · have hp : 0 < -y := by omega
    have := (Int.ediv_emod_unique (a := x) (b := -y) (r := x.tmod y) (q := -(x.tdiv y)) hp).2 ⟨by rw [Int.neg_mul_neg]; omega, h, by omega⟩
    rw [Int.ediv_neg, Int.emod_neg] at this
    exact ⟨by omega, this.2.symm⟩

theorem tdm_neg {x y : Int} (hy : y ≠ 0) (h : x.tmod y < 0) : (x - (x.tmod y + max y (-y))).tdiv y = x / y ∧ x.tmod y + max y (-y) = x % y := by
  have h1 := tmod_lim (x := x) hy
  have h2 := Int.mul_tdiv_add_tmod x y
  rcases Int.lt_or_le 0 y with hp | hn
  · have e : max y (-y) = y := by omega
    rw [e]
    have := (Int.ediv_emod_unique (a := x) (b := y) (r := x.tmod y + y) (q := x.tdiv y - 1) hp).2 ⟨by rw [Int.mul_sub]; omega, by omega, by omega⟩
    refine ⟨?_, this.2.symm⟩
    rw [show x - (x.tmod y + y) = y * (x.tdiv y - 1) by rw [Int.mul_sub]; omega, Int.mul_tdiv_cancel_left _ hy]
    exact this.1.symm
  · have hp : 0 < -y := by omega
    have e : max y (-y) = -y := by omega
    rw [e]
    have := (Int.ediv_emod_unique (a := x) (b := -y) (r := x.tmod y + -y) (q := -(x.tdiv y) - 1) hp).2 ⟨by rw [Int.mul_sub, Int.neg_mul_neg]; omega, by omega, by omega⟩
    rw [Int.ediv_neg, Int.emod_neg] at this
    refine ⟨?_, this.2.symm⟩
    rw [show x - (x.tmod y + -y) = y * (x.tdiv y + 1) by rw [Int.mul_add]; omega, Int.mul_tdiv_cancel_left _ hy]
    omega

end Go.Proofs.YtccngnjkehibiaaGreatDoor

/- The walks over the reference's layer 1: Gcd. -/
namespace Go.Proofs.YtccngnjkehibiaaGreatDoor
open Go.RowKit Go.Lib

theorem nat_size_mono {a b k : Nat} (h : a ≤ b) (hb : (IS (b : Int)).size ≤ k) (hk : 0 < k) : (IS (a : Int)).size ≤ k := by
  rw [IS_size, itoa_nat] at *
  rw [len_decDigits_le _ _ hk] at *
  omega

theorem abs_size {n : Int} {k : Nat} (h : (IS n).size ≤ k) : (IS (n.natAbs : Int)).size ≤ k := by
  have h1 := itoa_len n
  rw [IS_size] at h
  rw [IS_size, itoa_nat, decDigits_length]
  split at h1 <;> omega

end Go.Proofs.YtccngnjkehibiaaGreatDoor

/- The walks over the reference's layer 1: Canonical, Right. -/
namespace Go.Proofs.YtccngnjkehibiaaGreatDoor
open Go.RowKit Go.Lib

/-- The code of the answer, canonB only. -/
theorem canon_bad {l t : List UInt8} {m : Bool} (ht : t = trimPrefix l [45]) (hm : m = hasPrefix l [45])
    (h : t = [] ∨ (t.head? = some 48 ∧ (1 < t.length ∨ m = true)) ∨ ∃ c ∈ t, ¬ isDig c) : canonB l = false := by
  unfold canonB
  rw [← ht, ← hm]
  rcases h with rfl | ⟨h1, h2⟩ | ⟨c, hc, hd⟩
  · simp
  · rcases h2 with h2 | h2 <;> simp [h1, h2]
  · have : t.all (fun c => decide (isDig c)) = false := by
      rw [List.all_eq_false]; exact ⟨c, hc, by simpa using hd⟩
    simp only [this, Bool.and_false]

theorem canon_good {l t : List UInt8} {m : Bool} (ht : t = trimPrefix l [45]) (hm : m = hasPrefix l [45])
    (h1 : t ≠ []) (h3 : t.head? = some 48 → t.length ≤ 1 ∧ m = false) (h4 : ∀ c ∈ t, isDig c) : canonB l = true := by
  unfold canonB
  rw [← ht, ← hm]
  have : t.all (fun c => decide (isDig c)) = true := by
    rw [List.all_eq_true]; intro c hc; simpa using h4 c hc
  simp only [this, Bool.and_true, Bool.and_eq_true, Bool.not_eq_true']
  refine ⟨by simpa using h1, ?_⟩
  rw [Bool.and_eq_false_iff]
  by_cases h : t.head? = some 48
  · right
    obtain ⟨h5, h6⟩ := h3 h
    rw [h6]; simp; exact h5
  · left; simpa using h

end Go.Proofs.YtccngnjkehibiaaGreatDoor
