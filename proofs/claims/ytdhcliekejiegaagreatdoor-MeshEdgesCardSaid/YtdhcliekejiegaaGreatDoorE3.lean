/- The walk over field.cut. -/
import Derived.Test.YtdhcliekejiegaaGreatDoorE2
import Derived.Deep.RegionHeld3
import Derived.Deep.DeepCutAuto
namespace Go.Proofs.YtdhcliekejiegaaGreatDoor
open Go.RowKit Go.Lib

theorem owns_apart {w : World} {b1 b2 e1 e2 s1 s2 n1 n2 : Nat} {v1 v2 : Value} {x1 x2 : List Value} (h1 : w.ownsRow b1 e1 s1 v1 n1 x1) (h2 : w.ownsRow b2 e2 s2 v2 n2 x2) (hne : e1 ≠ e2) : v1.ownBlock = none ∨ v1.ownBlock ≠ v2.ownBlock := by
  rcases h1.2 with ⟨rfl, _⟩ | ⟨g, cap, cur, rfl, _, hg, _⟩
  · exact .inl rfl
  · refine .inr fun e => ?_
    rcases h2.2 with ⟨rfl, _⟩ | ⟨g', cap', cur', rfl, _, hg', _⟩
    · simp [Value.ownBlock] at e
    · simp [Value.ownBlock] at e
      subst e
      rw [hg] at hg'
      injection hg' with h
      injection h with _ h
      exact hne h
theorem owns_boxN {w : World} {b1 e1 s1 n1 b t : Nat} {v1 : Value} {x1 l : List Value} (h1 : w.ownsRow b1 e1 s1 v1 n1 x1) (h2 : BoxN w b t l) (hne : e1 ≠ t) : some b ≠ v1.ownBlock := by
  rcases h1.2 with ⟨rfl, _⟩ | ⟨g, cap, cur, rfl, _, hg, _⟩
  · intro e; simp [Value.ownBlock] at e
  · intro e
    simp [Value.ownBlock] at e
    subst e
    rw [show w.heap[b]? = _ from h2] at hg
    injection hg with h
    injection h with _ h
    exact hne h.symm

end Go.Proofs.YtdhcliekejiegaaGreatDoor
