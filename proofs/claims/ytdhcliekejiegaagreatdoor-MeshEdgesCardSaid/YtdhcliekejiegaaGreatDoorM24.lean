/- mesh.Turn: of an edge that is none, of one on the border, of one between two triangles. -/
import Derived.Test.YtdhcliekejiegaaGreatDoorM22
import Derived.Test.YtdhcliekejiegaaGreatDoorN2
import Derived.BigRegion
namespace Go.Proofs.YtdhcliekejiegaaGreatDoor
open Go.RowKit Go.Lib

section
variable {P : Program} {ops : Array Oper} {Q : Exit → Act → World → Prop} {md : Region.Mode} {S : Array Bool → World → Prop}
/-- One of two operations comes up. -/
theorem AnyL.two {i j : Nat} {oi oj : Oper} {n : Nat} {l : Array Bool} {a : Act} {w : World} (hr : Region.ready md ops l = [i, j]) (hi : ops[i]? = some oi) (hj : ops[j]? = some oj)
    (h1 : ∀ K' : Act → World → Prop, Shut (∀ a w, S (l.setIfInBounds i true) w → (S (l.setIfInBounds i true) w → AnyL P md ops Q S n (l.setIfInBounds i true) a w) → K' a w) → if Region.wanted oi (yielded ops a.tmps) = true then Oper.wp P oi a w K' Q else K' (a.put oi.dst undef) w)
    (h2 : ∀ K' : Act → World → Prop, Shut (∀ a w, S (l.setIfInBounds j true) w → (S (l.setIfInBounds j true) w → AnyL P md ops Q S n (l.setIfInBounds j true) a w) → K' a w) → if Region.wanted oj (yielded ops a.tmps) = true then Oper.wp P oj a w K' Q else K' (a.put oj.dst undef) w) :
    AnyL P md ops Q S (n + 1) l a w := by
  refine ⟨fun h0 => (by rw [h0] at hr; cases hr), fun m hm => ?_⟩
  rw [hr] at hm
  rcases List.mem_cons.1 hm with rfl | hm
  · exact wpOp_step hi (fun K' hK => h1 K' (fun a w hS hW => hK a w ⟨hS, hW hS⟩))
  · obtain rfl : m = j := by simpa using hm
    exact wpOp_step hj (fun K' hK => h2 K' (fun a w hS hW => hK a w ⟨hS, hW hS⟩))
end

theorem ptI_szP {P : List PtQ} {m : Nat} (h : ∀ p ∈ P, SzP m p) (hk : 0 < m) (z : Int) : SzP m (ptI P z) := by
  unfold ptI
  rcases Nat.lt_or_ge z.toNat P.length with h1 | h1
  · rw [List.getElem?_eq_getElem h1]; exact h _ (List.getElem_mem h1)
  · rw [List.getElem?_eq_none h1]; exact ⟨Sz.zero _ hk, Sz.zero _ hk⟩
end Go.Proofs.YtdhcliekejiegaaGreatDoor
