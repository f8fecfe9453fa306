/- Plain: edges of meshes, turned. -/
import Derived.Test.YtdhcliekejiegaaGreatDoorM12
import Derived.Laws.StructEq
namespace Go.Proofs.YtdhcliekejiegaaGreatDoor
open Go.RowKit Go.Lib

theorem ownL_find (T : List Tri) (e : Edge) : (ownL T).find? (fun x => x.1 == e) = T.zipIdx.findSome? (fun x => if e ∈ sidesOf x.1 then some (e, (x.2 : Int)) else none) := by
  unfold ownL
  rw [List.find?_flatMap]
  congr 1
  funext x
  rw [List.find?_map]
  by_cases h : e ∈ sidesOf x.1
  · rw [if_pos h]
    cases hf : (sidesOf x.1).find? ((fun y : Edge × Int => y.1 == e) ∘ fun s => (s, (x.2 : Int))) with
    | none =>
      have := List.find?_eq_none.1 hf e h
      simp at this
    | some s =>
      have := List.find?_some hf
      simp at this
      rw [this]; rfl
  · rw [if_neg h]
    cases hf : (sidesOf x.1).find? ((fun y : Edge × Int => y.1 == e) ∘ fun s => (s, (x.2 : Int))) with
    | none => rfl
    | some s =>
      have h1 := List.find?_some hf
      have h2 := List.mem_of_find?_eq_some hf
      simp at h1
      rw [h1] at h2
      exact absurd h2 h

theorem zip_first (e : Edge) : ∀ (T : List Tri) (k i : Nat) (hi : i < T.length), (∀ (j : Nat) (hj : j < T.length), j < i → e ∉ sidesOf T[j]) → e ∈ sidesOf T[i] →
    (T.zipIdx k).findSome? (fun x => if e ∈ sidesOf x.1 then some (e, (x.2 : Int)) else none) = some (e, ((k + i : Nat) : Int)) := by
  intro T
  induction T with
  | nil => intro k i hi; exact absurd hi (Nat.not_lt_zero _)
  | cons t T ih =>
    intro k i hi h1 h2
    rw [List.zipIdx_cons, List.findSome?_cons]
    cases i with
    | zero =>
      have h3 : e ∈ sidesOf t := h2
      simp only [if_pos h3, Nat.add_zero]
    | succ i =>
      have h3 : e ∉ sidesOf t := h1 0 (Nat.succ_pos _) (Nat.succ_pos _)
      simp only [if_neg h3]
      rw [ih (k + 1) i (by simpa using hi) (fun j hj hji => h1 (j + 1) (by simpa using hj) (by omega)) h2, show k + 1 + i = k + (i + 1) by omega]

/-- The triangle with a side from u to v, or -1. -/
def sideI (T : List Tri) (u v : Int) : Int := match (ownL T).find? (fun x => x.1 == (u, v)) with | some x => x.2 | none => -1
theorem sideI_out {T : List Tri} {u v : Int} (h : (u, v) ∉ (ownL T).map (·.1)) : sideI T u v = -1 := by
  unfold sideI
  cases e : (ownL T).find? (fun x => x.1 == (u, v)) with
  | none => rfl
  | some x =>
    have h1 := List.mem_of_find?_eq_some e
    have h2 := List.find?_some e
    simp at h2
    exact absurd (List.mem_map.2 ⟨x, h1, h2⟩) h
theorem sideI_first (T : List Tri) (u v : Int) (i : Nat) (hi : i < T.length) (h1 : ∀ (j : Nat) (hj : j < T.length), j < i → (u, v) ∉ sidesOf T[j]) (h2 : (u, v) ∈ sidesOf T[i]) : sideI T u v = (i : Int) := by
  unfold sideI
  rw [ownL_find, zip_first (u, v) T 0 i hi h1 h2, Nat.zero_add]
theorem sideI_none (T : List Tri) (u v : Int) (h1 : ∀ (j : Nat) (hj : j < T.length), (u, v) ∉ sidesOf T[j]) : sideI T u v = -1 := by
  refine sideI_out fun h => ?_
  rw [ownL_keys] at h
  unfold keysOf at h
  obtain ⟨t, ht, h2⟩ := List.mem_flatMap.1 h
  obtain ⟨j, hj, rfl⟩ := List.getElem_of_mem ht
  exact h1 j hj h2
/-- The triangles with an edge turned. -/
def turnT (T : List Tri) (i k : Nat) (u v p q : Int) : List Tri := (T.set (min i k) (u, q, p)).set (max i k) (q, v, p)

/-- What a shape's edge needs for a turn. -/
def turnC (P : List PtQ) (T : List Tri) (i k : Nat) (u v p q : Int) (s t : Tri) : Prop :=
  i ≠ k ∧ s.1 + s.2.1 + s.2.2 - u - v = p ∧ t.1 + t.2.1 + t.2.2 - u - v = q ∧ (0 ≤ p ∧ p < (P.length : Int)) ∧ (0 ≤ q ∧ q < (P.length : Int)) ∧
    (0 < turnZ (ptI P u) (ptI P q) (ptI P p) → 0 < turnZ (ptI P q) (ptI P v) (ptI P p) → formB P (turnT T i k u v p q) = true)
instance (P : List PtQ) (T : List Tri) (i k : Nat) (u v p q : Int) (s t : Tri) : Decidable (turnC P T i k u v p q s t) := by unfold turnC; infer_instance
theorem sheetP_move (k : Nat) (s0 s1 : Int) (half : Bool) : sheetP k s0 s1 half = (shapeQ k).map (moveP (s0.tmod 8 : Int) (s1.tmod 8 : Int) (1 / (halfD half : Rat))) := by
  unfold sheetP shapeQ
  rw [List.map_map]
  refine List.map_congr_left fun p _ => ?_
  show (_, _) = moveP _ _ _ _
  unfold moveP
  rw [placeQ_move, placeQ_move]
end Go.Proofs.YtdhcliekejiegaaGreatDoor
