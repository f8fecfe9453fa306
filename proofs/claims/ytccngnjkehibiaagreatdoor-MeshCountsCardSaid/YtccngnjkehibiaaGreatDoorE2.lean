/- Parts of a triangle above a height: the plain words; a slice of corners. -/
import Derived.Test.YtccngnjkehibiaaGreatDoorE1
namespace Go.Proofs.YtccngnjkehibiaaGreatDoor
open Go.RowKit Go.Lib

def VC (c : Cor) : Value := .agg #[.string (RS c.1.1), .string (RS c.1.2), .string (RS c.2)]
def cellC (c : Cor) : List Value := [.string (RS c.1.1), .string (RS c.1.2), .string (RS c.2)]
def cellsC (l : List Cor) : List Value := l.flatMap cellC
def RdK (w : World) (v : Value) (l : List Cor) : Prop := RdC 3 w v l.length (cellsC l)

theorem cellsC_snoc (l : List Cor) (c : Cor) : cellsC (l ++ [c]) = cellsC l ++ [.string (RS c.1.1), .string (RS c.1.2), .string (RS c.2)] := by simp [cellsC, cellC]

theorem RdK.open {w : World} {v : Value} {l : List Cor} (h : RdK w v l) : ∃ p c, v = .slice p l.length c ∧ l.length ≤ c ∧ c ≤ maxLen ∧
    (l ≠ [] → ∃ b off, p = some ⟨b, off, none⟩ ∧ b < w.heap.size ∧ ∀ (i : Nat) (hi : i < l.length), w.cell? ⟨b, off + i * 3, none⟩ = some (.string (RS l[i].1.1)) ∧ w.cell? ⟨b, off + i * 3 + 1, none⟩ = some (.string (RS l[i].1.2)) ∧ w.cell? ⟨b, off + i * 3 + 2, none⟩ = some (.string (RS l[i].2))) := by
  obtain ⟨p, c, hv, h1, h2, h3, h4⟩ := h
  refine ⟨p, c, hv, h1, h2, fun hne => ?_⟩
  obtain ⟨b, off, hp, hc⟩ := h4 (by
    cases l with
    | nil => exact absurd rfl hne
    | cons a l => simp [cellsC, cellC])
  have hcell : ∀ (i : Nat) (hi : i < l.length), w.cell? ⟨b, off + i * 3, none⟩ = some (.string (RS l[i].1.1)) ∧ w.cell? ⟨b, off + i * 3 + 1, none⟩ = some (.string (RS l[i].1.2)) ∧ w.cell? ⟨b, off + i * 3 + 2, none⟩ = some (.string (RS l[i].2)) := fun i hi => by
    have e := getElem?_flatMap_const cellC 3 (fun _ => rfl) l i
    refine ⟨?_, ?_, ?_⟩
    · have := hc (i * 3) (.string (RS l[i].1.1)) (by have := e 0 (by omega); rw [Nat.add_zero] at this; unfold cellsC; rw [this, List.getElem?_eq_getElem hi]; rfl)
      exact this
    · have := hc (i * 3 + 1) (.string (RS l[i].1.2)) (by have := e 1 (by omega); unfold cellsC; rw [this, List.getElem?_eq_getElem hi]; rfl)
      rw [← Nat.add_assoc] at this
      exact this
    · have := hc (i * 3 + 2) (.string (RS l[i].2)) (by have := e 2 (by omega); unfold cellsC; rw [this, List.getElem?_eq_getElem hi]; rfl)
      rw [← Nat.add_assoc] at this
      exact this
  exact ⟨b, off, hp, World.block_lt_of_cell? w _ (hcell 0 (List.length_pos_iff.2 hne)).1, hcell⟩

/-- Where the height is crossed between two corners. -/
def crossK (a b : Cor) (z : Rat) : Cor := ((towQ a.1.1 b.1.1 ((a.2 - z) / ((a.2 - z) - (b.2 - z))), towQ a.1.2 b.1.2 ((a.2 - z) / ((a.2 - z) - (b.2 - z)))), z)
def cutS (a b : Cor) (z : Rat) : List Cor := (if 0 ≤ (a.2 - z).num.sign then [a] else []) ++ (if (a.2 - z).num.sign * (b.2 - z).num.sign < 0 then [crossK a b z] else [])
def corA (c0 c1 c2 : Cor) : Nat → Cor | 0 => c0 | 1 => c1 | _ => c2
def corB (c0 c1 c2 : Cor) : Nat → Cor | 0 => c1 | 1 => c2 | _ => c0
def cutTo (c0 c1 c2 : Cor) (z : Rat) : Nat → List Cor | 0 => [] | i + 1 => cutTo c0 c1 c2 z i ++ cutS (corA c0 c1 c2 i) (corB c0 c1 c2 i) z
def someTo (c0 c1 c2 : Cor) (z : Rat) : Nat → Bool | 0 => false | i + 1 => someTo c0 c1 c2 z i || decide (0 < ((corA c0 c1 c2 i).2 - z).num.sign)
/-- The part of a triangle above a height. -/
def cutL (c0 c1 c2 : Cor) (z : Rat) : List Cor := if someTo c0 c1 c2 z 3 then cutTo c0 c1 c2 z 3 else []

theorem cutS_len (a b : Cor) (z : Rat) : (cutS a b z).length ≤ 2 := by
  unfold cutS
  rw [List.length_append]
  split <;> split <;> simp
theorem cutTo_len (c0 c1 c2 : Cor) (z : Rat) : ∀ i, (cutTo c0 c1 c2 z i).length ≤ 2 * i
  | 0 => by simp [cutTo]
  | i + 1 => by
    have h1 := cutTo_len c0 c1 c2 z i
    have h2 := cutS_len (corA c0 c1 c2 i) (corB c0 c1 c2 i) z
    unfold cutTo
    rw [List.length_append]
    omega
theorem cutTo_ne (c0 c1 c2 : Cor) (z : Rat) : ∀ i, someTo c0 c1 c2 z i = true → cutTo c0 c1 c2 z i ≠ []
  | 0, h => by simp [someTo] at h
  | i + 1, h => by
    unfold someTo at h
    rw [Bool.or_eq_true] at h
    unfold cutTo
    rcases h with h | h
    · intro e
      exact cutTo_ne c0 c1 c2 z i h (List.append_eq_nil_iff.1 e).1
    · have h1 := of_decide_eq_true h
      intro e
      have e2 := (List.append_eq_nil_iff.1 e).2
      unfold cutS at e2
      rw [if_pos (by omega)] at e2
      simp at e2

theorem str_zero_test (q : Rat) : (RS q).toList = [48] ↔ q.num.sign = 0 := by
  have h := RS_eq48 q
  rw [Int.sign_eq_zero_iff_zero, Rat.num_eq_zero]
  by_cases hq : q = 0
  · rw [decide_eq_true hq] at h
    exact ⟨fun _ => hq, fun _ => by simpa using h⟩
  · rw [decide_eq_false hq] at h
    exact ⟨fun e => by rw [e] at h; simp at h, fun e => absurd e hq⟩

theorem sign3 (q : Rat) : q.num.sign = -1 ∨ q.num.sign = 0 ∨ q.num.sign = 1 := by
  rcases Int.lt_trichotomy q.num 0 with h | h | h
  · exact .inl (Int.sign_eq_neg_one_of_neg h)
  · exact .inr (.inl (by rw [h]; rfl))
  · exact .inr (.inr (Int.sign_eq_one_of_pos h))

theorem cell_three (w : World) (x y z : Value) (E : Nat) : ∀ (j : Nat) (u : Value), [x, y, z][j]? = some u → (w.alloc (.cells #[x, y, z] E)).cell? ((⟨w.heap.size, 0, none⟩ : Addr).add j) = some u := World.news_of_block (cs := #[x, y, z]) (t := E) (fr := (0, 0)) (World.alloc_heap_new w _)
theorem three_str (x y z : ByteArray) : ∀ u ∈ [Value.string x, .string y, .string z], u.oneCell' = true := by
  intro u hu; simp at hu; rcases hu with rfl | rfl | rfl <;> rfl

end Go.Proofs.YtccngnjkehibiaaGreatDoor
