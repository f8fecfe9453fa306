/- Thickness: parallel, Squared, Toward, differences. -/
import Derived.Test.YtdhcliekejiegaaGreatDoorK1
import Derived.Deep.RegionLaw
import Derived.Deep.AppendLies
/- The walk over thickness.parallel of equal slopes. -/
namespace Go.Proofs.YtdhcliekejiegaaGreatDoor
open Go.RowKit Go.Lib

theorem FieldIn.hgt {w : World} {vp vt vf : Value} {P : List PtQ} {T : List Tri} {k : Nat} {F : List Rat} (h : FieldIn w vp vt vf P T k F) (m : Nat) (hm : m < F.length) : ∃ b off cf, vf = .slice (some ⟨b, off, none⟩) F.length cf ∧ b < w.heap.size ∧
    w.cell? ⟨b, off + m, none⟩ = some (.string (RS (hI F (m : Int)))) := by
  obtain ⟨pf, cf, rfl, _, _, hr⟩ := h.f.open
  obtain ⟨b, off, rfl, hb, hc⟩ := hr (by intro e; rw [e] at hm; simp at hm)
  exact ⟨b, off, cf, rfl, hb, by rw [hI_nat F m hm]; exact hc m hm⟩

end Go.Proofs.YtdhcliekejiegaaGreatDoor

/- The walks over rational.Div by 0 and thickness.Squared. -/
namespace Go.Proofs.YtdhcliekejiegaaGreatDoor
open Go.RowKit Go.Lib

theorem ratDiv_zero (p : Rat) (w : World) :
    Calls Tryz.prog 104 #[.string (RS p), .string (RS 0)] w (Ret (fun v _ => v = .tuple #[.string ⟨#[]⟩, .int .i64 17]) w) := by
  have h8 := RS_eq48 0
  rw [decide_eq_true rfl] at h8
  generalize RS 0 = s at *
  go_enter Tryz.func104, Tryz.ntmps104
  go_wp2_with fail
  go_ret2
  exact ⟨_, rfl, rfl, Below.refl _ _⟩

end Go.Proofs.YtdhcliekejiegaaGreatDoor

/- The walk over thickness.Toward. -/
namespace Go.Proofs.YtdhcliekejiegaaGreatDoor
open Go.RowKit Go.Lib

end Go.Proofs.YtdhcliekejiegaaGreatDoor

/- The walks over thickness.differences and double. -/
namespace Go.Proofs.YtdhcliekejiegaaGreatDoor
open Go.RowKit Go.Lib

theorem info_str : ((Tryz.prog).info? 32).map (fun i => (i.zero, i.size, i.bytes)) = some (some (.string ⟨#[]⟩), 1, 16) := by kernel_rfl

theorem take_snoc {α : Type} (l : List α) (i : Nat) (x : α) (h : l[i]? = some x) : l.take (i + 1) = l.take i ++ [x] := by
  obtain ⟨hlt, hx⟩ := List.getElem?_eq_some_iff.1 h
  rw [List.take_succ_eq_append_getElem hlt, hx]

end Go.Proofs.YtdhcliekejiegaaGreatDoor
