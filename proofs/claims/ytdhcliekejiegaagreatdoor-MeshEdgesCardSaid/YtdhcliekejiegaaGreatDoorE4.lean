/- Level lines: the plain words. -/
import Derived.Test.YtdhcliekejiegaaGreatDoorE2
namespace Go.Proofs.YtdhcliekejiegaaGreatDoor
open Go.RowKit Go.Lib

/-- The triangle beyond a side, or -1. -/
def nbI (T : List Tri) (s : Edge) : Int := match (ownL T).find? (fun x => x.1 == revE s) with | some x => x.2 | none => -1
theorem nbI_some {T : List Tri} {s : Edge} (h : revE s ∈ (ownL T).map (·.1)) : (revE s, nbI T s) ∈ ownL T := by
  unfold nbI
  cases e : (ownL T).find? (fun x => x.1 == revE s) with
  | none =>
    obtain ⟨x, hx, hx2⟩ := List.mem_map.1 h
    have := List.find?_eq_none.1 e x hx
    simp [hx2] at this
  | some x =>
    have h1 := List.mem_of_find?_eq_some e
    have h2 := List.find?_some e
    simp at h2
    rw [← h2]; exact h1
theorem nbI_none {T : List Tri} {s : Edge} (h : revE s ∉ (ownL T).map (·.1)) : nbI T s = -1 := by
  unfold nbI
  cases e : (ownL T).find? (fun x => x.1 == revE s) with
  | none => rfl
  | some x =>
    have h1 := List.mem_of_find?_eq_some e
    have h2 := List.find?_some e
    simp at h2
    exact absurd (List.mem_map.2 ⟨x, h1, h2⟩) h

end Go.Proofs.YtdhcliekejiegaaGreatDoor
