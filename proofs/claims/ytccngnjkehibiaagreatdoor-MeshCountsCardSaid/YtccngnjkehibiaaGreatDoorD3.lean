/- Klipperef01: carry, joined, times, take, give, parts. -/
import Derived.Test.YtccngnjkehibiaaGreatDoorD2
import Derived.Laws.OwnMore
import Derived.BigRegion
import Derived.Test.YtccngnjkehibiaaGreatDoorD1
import Derived.Test.YtccngnjkehibiaaGreatDoorB2
/- The walks over the reference's pieces: klipperef01.carry, joined. -/
namespace Go.Proofs.YtccngnjkehibiaaGreatDoor
open Go.RowKit

theorem cell_one_i64 (w : World) (x : Int) (E : Nat) : ∀ (j : Nat) (u : Value), [Value.int .i64 x][j]? = some u → (w.alloc (.cells #[.int .i64 x] E)).cell? ((⟨w.heap.size, 0, none⟩ : Addr).add j) = some u := cell_one_new _ _ _

theorem one_cell_i64 (x : Int) : ∀ u ∈ [Value.int .i64 x], u.oneCell' = true := by intro u hu; simp at hu; subst hu; rfl

theorem map_snoc_i64 (l : List Nat) (x : Nat) : (l.map fun x : Nat => Value.int .i64 (x : Int)) ++ [Value.int .i64 (x : Int)] = (l ++ [x]).map fun x : Nat => Value.int .i64 (x : Int) := by simp

theorem tmod_cases (s : Int) : (0 ≤ s ∧ s.tmod 10000 = s % 10000) ∨ (s < 0 ∧ s.tmod 10000 = -((-s) % 10000)) := by
  rcases Int.lt_or_le s 0 with h | h
  · right
    refine ⟨h, ?_⟩
    have : s = -(-s) := by omega
    conv => lhs; rw [this, Int.neg_tmod, Int.tmod_eq_emod_of_nonneg (by omega)]
  · exact .inl ⟨h, Int.tmod_eq_emod_of_nonneg h⟩

theorem tdiv_exact (s : Int) : (s - s % 10000).tdiv 10000 = s / 10000 := by
  have h : s - s % 10000 = 10000 * (s / 10000) := by omega
  rw [h, Int.mul_tdiv_cancel_left _ (by decide)]

theorem tdig_neg {s m : Int} (hm : m = s.tmod 10000) (h : m < 0) : m + 10000 = s % 10000 ∧ (s - (m + 10000)).tdiv 10000 = s / 10000 := by
  have h1 : m + 10000 = s % 10000 := by
    rcases tmod_cases s with ⟨h2, h3⟩ | ⟨h2, h3⟩ <;> rw [h3] at hm <;> omega
  exact ⟨h1, by rw [h1]; exact tdiv_exact s⟩

theorem tdig_pos {s m : Int} (hm : m = s.tmod 10000) (h : ¬ m < 0) : m = s % 10000 ∧ (s - m).tdiv 10000 = s / 10000 := by
  have h1 : m = s % 10000 := by
    rcases tmod_cases s with ⟨h2, h3⟩ | ⟨h2, h3⟩ <;> rw [h3] at hm <;> omega
  exact ⟨h1, by rw [h1]; exact tdiv_exact s⟩

/-- How many rounds are left. -/
def Few (len k : Nat) (ov : Int) : Prop := k ≤ len ∨ ∃ f : Nat, k + f ≤ len + 5 ∧ ov < 10000 ^ f

theorem Few.le {len k : Nat} {ov : Int} (h : Few len k ov) : k ≤ len + 5 := by
  rcases h with h | ⟨f, h, _⟩ <;> omega

theorem Few.step {len k : Nat} {ov s : Int} (h : Few len k ov) (hs : k < len ∨ (s = ov ∧ 0 < ov)) (h1 : ov ≤ 100000000000000000) : Few len (k + 1) (s / 10000) := by
  rcases hs with hk | ⟨rfl, h0⟩
  · exact .inl hk
  · rcases Nat.lt_or_ge k len with hk | hk
    · exact .inl hk
    · have h2 : ∃ f : Nat, k + f ≤ len + 5 ∧ s < 10000 ^ f := by
        rcases h with h | h
        · exact ⟨5, by omega, by omega⟩
        · exact h
      obtain ⟨f, hf, hlt⟩ := h2
      cases f with
      | zero => simp at hlt; omega
      | succ f =>
        refine .inr ⟨f, by omega, ?_⟩
        rw [Int.pow_succ] at hlt
        generalize (10000 : Int) ^ f = P at *
        omega

end Go.Proofs.YtccngnjkehibiaaGreatDoor

/- The walks over the reference's pieces: klipperef01.joined. -/
namespace Go.Proofs.YtccngnjkehibiaaGreatDoor
open Go.RowKit

theorem own_shape {w : World} {base e n sz : Nat} {v : Value} {cs : List Value} (h : w.ownsRow base e sz v n cs) : ∃ p c, v = .slice p n c ∧ (0 < n → ∃ g, p = some ⟨g, 0, none⟩ ∧ base ≤ g) := by
  rcases h.2 with ⟨h1, h2⟩ | ⟨g, cap, cur, h1, hb, _⟩
  · exact ⟨none, 0, by rw [h1, h2], fun h3 => absurd h2 (by omega)⟩
  · exact ⟨_, cap, h1, fun _ => ⟨g, rfl, hb⟩⟩

end Go.Proofs.YtccngnjkehibiaaGreatDoor

/- The walks over the reference's pieces: klipperef01.times. -/
namespace Go.Proofs.YtccngnjkehibiaaGreatDoor
open Go.RowKit

/-- Block g is an array of the call's own that holds the integers 'o'. -/
def ArrI (k : IntKind) (w : World) (g E : Nat) (o : List Int) : Prop := w.heap[g]? = some (.cells (o.map fun x : Int => Value.int k x).toArray E (0, 0))

theorem ArrI.cell {k : IntKind} {w : World} {g E : Nat} {o : List Int} (h : ArrI k w g E o) (j : Nat) (hj : j < o.length) : w.cell? ⟨g, j, none⟩ = some (.int k (o[j])) := by
  rw [cell_of_row w g j _ E (0, 0) h]
  simp [hj]

theorem ArrI.frozen {k : IntKind} {w : World} {g E : Nat} {o : List Int} (h : ArrI k w g E o) (j : Nat) : w.frozen? ⟨g, j, none⟩ = false := by
  unfold World.frozen?
  rw [h]
  simp

theorem ArrI.lt {k : IntKind} {w : World} {g E : Nat} {o : List Int} (h : ArrI k w g E o) : g < w.heap.size := (Array.getElem?_eq_some_iff.1 h).1

theorem ArrI.set {k : IntKind} {w : World} {g E : Nat} {o : List Int} (h : ArrI k w g E o) (j : Nat) (v : Int) : ArrI k (w.setCell ⟨g, j, none⟩ (.int k v)) g E (o.set j v) := by
  unfold ArrI at *
  have hg : g < w.heap.size := (Array.getElem?_eq_some_iff.1 h).1
  have h2 := (Array.getElem?_eq_some_iff.1 h).2
  simp only [World.setCell, Array.getElem?_modify, if_pos, h, Option.map_some]
  simp [List.map_set]

theorem ArrI.rd {k : IntKind} {w : World} {g E : Nat} {o : List Int} (h : ArrI k w g E o) (hl : o.length ≤ maxLen) : RdI k w (.slice (some ⟨g, 0, none⟩) o.length o.length) o := by
  refine ⟨_, _, rfl, Nat.le_refl _, hl, by simp, fun _ => ⟨g, 0, rfl, fun i x hx => ?_⟩⟩
  have hi : i < o.length := by have := (List.getElem?_eq_some_iff.1 hx).1; simpa using this
  rw [Nat.zero_add, h.cell i hi]
  simp [hi] at hx
  rw [hx]

theorem ArrI.drewN {k : IntKind} {w : World} {g E : Nat} {o : List Int} (h : ArrI k w g E o) (n : Nat) : ArrI k (w.drewN n) g E o := h

theorem ArrI.of_zeros {k : IntKind} {w : World} {g E n : Nat} (h : Arr k w g E (List.replicate n 0)) : ArrI k w g E (List.replicate n 0) := by
  unfold ArrI
  unfold Arr at h
  rw [h]
  simp

theorem RdI.nat {k : IntKind} {w : World} {v : Value} {l : List Nat} (h : Rd k w v l) : RdI k w v (l.map fun x : Nat => (x : Int)) := by
  unfold RdI
  unfold Rd at h
  rw [List.map_map, List.length_map]
  exact h

end Go.Proofs.YtccngnjkehibiaaGreatDoor

/- The walks over the reference's pieces: klipperef01.take. -/
namespace Go.Proofs.YtccngnjkehibiaaGreatDoor
open Go.RowKit

/-- The value of the digits from a to b. -/
def dsl (s : ByteArray) (a b : Nat) : Nat := dval ((s.data.toList.take b).drop a)

theorem dsl_self (s : ByteArray) (a : Nat) : dsl s a a = 0 := by
  unfold dsl; rw [List.drop_eq_nil_of_le (by simp; omega)]; rfl

theorem dsl_step (s : ByteArray) (a b : Nat) (h : b < s.size) (hab : a ≤ b) : dsl s a (b + 1) = 10 * dsl s a b + (s[b].toNat - 48) := by
  unfold dsl
  have hb : b < s.data.toList.length := by simpa using h
  rw [List.take_succ_eq_append_getElem hb, List.drop_append_of_le_length (by simp; omega), dval_snoc]
  rfl

theorem dsl_lt (s : ByteArray) (a b : Nat) (hd : ∀ c ∈ s.data.toList, isDig c) (hb : b ≤ a + 4) : dsl s a b < 10000 := by
  unfold dsl
  refine Nat.lt_of_lt_of_le (dval_lt _ fun c hc => hd c (List.mem_of_mem_take (List.mem_of_mem_drop hc))) ?_
  show 10 ^ _ ≤ 10 ^ 4
  refine Nat.pow_le_pow_right (by decide) ?_
  rw [List.length_drop, List.length_take]; omega

theorem dig_at (s : ByteArray) (hd : ∀ c ∈ s.data.toList, isDig c) (b : Nat) (h : b < s.size) : 48 ≤ s[b].toNat ∧ s[b].toNat ≤ 57 := by
  have hb : b < s.data.toList.length := by simpa using h
  exact hd (s.data.toList[b]) (List.getElem_mem hb)

end Go.Proofs.YtccngnjkehibiaaGreatDoor

/- The walks over the reference's pieces: klipperef01.give, made. -/
namespace Go.Proofs.YtccngnjkehibiaaGreatDoor
open Go.RowKit Go.Lib

theorem ba_append (a b : ByteArray) : (a ++ b).data.toList = a.data.toList ++ b.data.toList := by simp [ByteArray.data_append]

theorem pad4_len (x : Nat) (hx : x < 10000) : (pad 4 x).length = 4 := pad_length 4 x (by decide) hx

theorem dec_len_drop {n j : Nat} (hj : j < (lm B4 n).length) : (decDigits (lval B4 ((lm B4 n).drop j))).length ≤ 4 * ((lm B4 n).length - j) := by
  rw [len_decDigits_le _ _ (by omega)]
  have h := lval_lt B4 ((lm B4 n).drop j) (fun x hx => lm_lt B4 n two_le_B4 x (List.mem_of_mem_drop hx))
  rw [List.length_drop] at h
  rw [Nat.pow_mul]
  exact h

/-- The sign of a number that may be 0. -/
def sgn (m : Bool) (n : Nat) : Int := if m then -(n : Int) else n

end Go.Proofs.YtccngnjkehibiaaGreatDoor

/- The walks over the reference's pieces: klipperef01.parts. -/
namespace Go.Proofs.YtccngnjkehibiaaGreatDoor
open Go.RowKit

end Go.Proofs.YtccngnjkehibiaaGreatDoor
