/- Klipperef01: carry, joined, times, take, give, parts. -/
import Derived.Test.YtdhcliekejiegaaGreatDoorD2
import Derived.Laws.OwnMore
import Derived.BigRegion
import Derived.Test.YtdhcliekejiegaaGreatDoorD1
import Derived.Test.YtdhcliekejiegaaGreatDoorB2
/- The walks over the reference's pieces: klipperef01.carry, joined. -/
namespace Go.Proofs.YtdhcliekejiegaaGreatDoor
open Go.RowKit

theorem cell_one_i64 (w : World) (x : Int) (E : Nat) : ∀ (j : Nat) (u : Value), [Value.int .i64 x][j]? = some u → (w.alloc (.cells #[.int .i64 x] E)).cell? ((⟨w.heap.size, 0, none⟩ : Addr).add j) = some u := cell_one_new _ _ _

theorem one_cell_i64 (x : Int) : ∀ u ∈ [Value.int .i64 x], u.oneCell' = true := by intro u hu; simp at hu; subst hu; rfl

/-- How many rounds are left. -/
def Few (len k : Nat) (ov : Int) : Prop := k ≤ len ∨ ∃ f : Nat, k + f ≤ len + 5 ∧ ov < 10000 ^ f

theorem Few.le {len k : Nat} {ov : Int} (h : Few len k ov) : k ≤ len + 5 := by
  rcases h with h | ⟨f, h, _⟩ <;> omega

theorem Few.step {len k : Nat} {ov s : Int} (h : Few len k ov) (hs : k < len ∨ (s = ov ∧ 0 < ov)) (h1 : ov ≤ 100000000000000000) : Few len (k + 1) (s / 10000) := by
  rcases hs with hk | ⟨rfl, h0⟩
  · exact .inl hk
  · rcases Nat.lt_or_ge k len with hk | hk
    · exact .inl hk
    · have h2 : ∃ f : Nat, k + f ≤ len + 5 ∧ s < 10000 ^ f := by
        rcases h with h | h
        · exact ⟨5, by omega, by omega⟩
        · exact h
      obtain ⟨f, hf, hlt⟩ := h2
      cases f with
      | zero => simp at hlt; omega
      | succ f =>
        refine .inr ⟨f, by omega, ?_⟩
        rw [Int.pow_succ] at hlt
        generalize (10000 : Int) ^ f = P at *
        omega

end Go.Proofs.YtdhcliekejiegaaGreatDoor

/- The walks over the reference's pieces: klipperef01.joined. -/
namespace Go.Proofs.YtdhcliekejiegaaGreatDoor
open Go.RowKit

end Go.Proofs.YtdhcliekejiegaaGreatDoor

/- The walks over the reference's pieces: klipperef01.times. -/
namespace Go.Proofs.YtdhcliekejiegaaGreatDoor
open Go.RowKit

/-- Block g is an array of the call's own that holds the integers 'o'. -/
def ArrI (k : IntKind) (w : World) (g E : Nat) (o : List Int) : Prop := w.heap[g]? = some (.cells (o.map fun x : Int => Value.int k x).toArray E (0, 0))

theorem ArrI.cell {k : IntKind} {w : World} {g E : Nat} {o : List Int} (h : ArrI k w g E o) (j : Nat) (hj : j < o.length) : w.cell? ⟨g, j, none⟩ = some (.int k (o[j])) := by
  rw [cell_of_row w g j _ E (0, 0) h]
  simp [hj]

theorem ArrI.frozen {k : IntKind} {w : World} {g E : Nat} {o : List Int} (h : ArrI k w g E o) (j : Nat) : w.frozen? ⟨g, j, none⟩ = false := by
  unfold World.frozen?
  rw [h]
  simp

theorem ArrI.lt {k : IntKind} {w : World} {g E : Nat} {o : List Int} (h : ArrI k w g E o) : g < w.heap.size := (Array.getElem?_eq_some_iff.1 h).1

theorem ArrI.set {k : IntKind} {w : World} {g E : Nat} {o : List Int} (h : ArrI k w g E o) (j : Nat) (v : Int) : ArrI k (w.setCell ⟨g, j, none⟩ (.int k v)) g E (o.set j v) := by
  unfold ArrI at *
  have hg : g < w.heap.size := (Array.getElem?_eq_some_iff.1 h).1
  have h2 := (Array.getElem?_eq_some_iff.1 h).2
  simp only [World.setCell, Array.getElem?_modify, if_pos, h, Option.map_some]
  simp [List.map_set]

theorem ArrI.rd {k : IntKind} {w : World} {g E : Nat} {o : List Int} (h : ArrI k w g E o) (hl : o.length ≤ maxLen) : RdI k w (.slice (some ⟨g, 0, none⟩) o.length o.length) o := by
  refine ⟨_, _, rfl, Nat.le_refl _, hl, by simp, fun _ => ⟨g, 0, rfl, fun i x hx => ?_⟩⟩
  have hi : i < o.length := by have := (List.getElem?_eq_some_iff.1 hx).1; simpa using this
  rw [Nat.zero_add, h.cell i hi]
  simp [hi] at hx
  rw [hx]

theorem ArrI.drewN {k : IntKind} {w : World} {g E : Nat} {o : List Int} (h : ArrI k w g E o) (n : Nat) : ArrI k (w.drewN n) g E o := h

end Go.Proofs.YtdhcliekejiegaaGreatDoor

/- The walks over the reference's pieces: klipperef01.take. -/
namespace Go.Proofs.YtdhcliekejiegaaGreatDoor
open Go.RowKit

/-- The value of the digits from a to b. -/
def dsl (s : ByteArray) (a b : Nat) : Nat := dval ((s.data.toList.take b).drop a)

theorem dsl_self (s : ByteArray) (a : Nat) : dsl s a a = 0 := by
  unfold dsl; rw [List.drop_eq_nil_of_le (by simp; omega)]; rfl

theorem dsl_step (s : ByteArray) (a b : Nat) (h : b < s.size) (hab : a ≤ b) : dsl s a (b + 1) = 10 * dsl s a b + (s[b].toNat - 48) := by
  unfold dsl
  have hb : b < s.data.toList.length := by simpa using h
  rw [List.take_succ_eq_append_getElem hb, List.drop_append_of_le_length (by simp; omega), dval_snoc]
  rfl

end Go.Proofs.YtdhcliekejiegaaGreatDoor

/- The walks over the reference's pieces: klipperef01.give, made. -/
namespace Go.Proofs.YtdhcliekejiegaaGreatDoor
open Go.RowKit Go.Lib

theorem ba_append (a b : ByteArray) : (a ++ b).data.toList = a.data.toList ++ b.data.toList := by simp [ByteArray.data_append]

end Go.Proofs.YtdhcliekejiegaaGreatDoor

/- The walks over the reference's pieces: klipperef01.parts. -/
namespace Go.Proofs.YtdhcliekejiegaaGreatDoor
open Go.RowKit

end Go.Proofs.YtdhcliekejiegaaGreatDoor
