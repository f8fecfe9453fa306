/- Parts of a triangle above a height: the plain words; a slice of corners. -/
import Derived.Test.YtdhcliekejiegaaGreatDoorE1
namespace Go.Proofs.YtdhcliekejiegaaGreatDoor
open Go.RowKit Go.Lib

def cellC (c : Cor) : List Value := [.string (RS c.1.1), .string (RS c.1.2), .string (RS c.2)]
def cellsC (l : List Cor) : List Value := l.flatMap cellC
def RdK (w : World) (v : Value) (l : List Cor) : Prop := RdC 3 w v l.length (cellsC l)

theorem RdK.open {w : World} {v : Value} {l : List Cor} (h : RdK w v l) : ∃ p c, v = .slice p l.length c ∧ l.length ≤ c ∧ c ≤ maxLen ∧
    (l ≠ [] → ∃ b off, p = some ⟨b, off, none⟩ ∧ b < w.heap.size ∧ ∀ (i : Nat) (hi : i < l.length), w.cell? ⟨b, off + i * 3, none⟩ = some (.string (RS l[i].1.1)) ∧ w.cell? ⟨b, off + i * 3 + 1, none⟩ = some (.string (RS l[i].1.2)) ∧ w.cell? ⟨b, off + i * 3 + 2, none⟩ = some (.string (RS l[i].2))) := by
  obtain ⟨p, c, hv, h1, h2, h3, h4⟩ := h
  refine ⟨p, c, hv, h1, h2, fun hne => ?_⟩
  obtain ⟨b, off, hp, hc⟩ := h4 (by
    cases l with
    | nil => exact absurd rfl hne
    | cons a l => simp [cellsC, cellC])
  have hcell : ∀ (i : Nat) (hi : i < l.length), w.cell? ⟨b, off + i * 3, none⟩ = some (.string (RS l[i].1.1)) ∧ w.cell? ⟨b, off + i * 3 + 1, none⟩ = some (.string (RS l[i].1.2)) ∧ w.cell? ⟨b, off + i * 3 + 2, none⟩ = some (.string (RS l[i].2)) := fun i hi => by
    have e := getElem?_flatMap_const cellC 3 (fun _ => rfl) l i
    refine ⟨?_, ?_, ?_⟩
    · have := hc (i * 3) (.string (RS l[i].1.1)) (by have := e 0 (by omega); rw [Nat.add_zero] at this; unfold cellsC; rw [this, List.getElem?_eq_getElem hi]; rfl)
      exact this
    · have := hc (i * 3 + 1) (.string (RS l[i].1.2)) (by have := e 1 (by omega); unfold cellsC; rw [this, List.getElem?_eq_getElem hi]; rfl)
      rw [← Nat.add_assoc] at this
      exact this
    · have := hc (i * 3 + 2) (.string (RS l[i].2)) (by have := e 2 (by omega); unfold cellsC; rw [this, List.getElem?_eq_getElem hi]; rfl)
      rw [← Nat.add_assoc] at this
      exact this
  exact ⟨b, off, hp, World.block_lt_of_cell? w _ (hcell 0 (List.length_pos_iff.2 hne)).1, hcell⟩

theorem cell_three (w : World) (x y z : Value) (E : Nat) : ∀ (j : Nat) (u : Value), [x, y, z][j]? = some u → (w.alloc (.cells #[x, y, z] E)).cell? ((⟨w.heap.size, 0, none⟩ : Addr).add j) = some u := World.news_of_block (cs := #[x, y, z]) (t := E) (fr := (0, 0)) (World.alloc_heap_new w _)
end Go.Proofs.YtdhcliekejiegaaGreatDoor
