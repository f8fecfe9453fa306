/- An argument of a law: levels. -/
import Derived.Test.YtjfjkiibmfgplaaGreatDoorR3
namespace Go.Proofs.YtjfjkiibmfgplaaGreatDoor
open Go.ChangeShapes Go.WideShapes Go.ChangeAt Go.RowKit Go.Lib

theorem levels_types : (Tryz.prog).cellTypes (Tryz.prog).depth 93 = some [33, 33, 3] := by kernel_rfl
theorem levels_cells : (Tryz.prog).cellsOf 93 = 3 := by kernel_rfl
set_option maxRecDepth 100000 in
theorem open_levels {w : World} {r : Reach} {b : Nat} {v : Value} (h : Value.okWide Tryz.prog w r b 93 v) :
    ∃ (x y : ByteArray) (n : Int), v = .agg #[.string x, .string y, .int .i64 n] ∧ x.size ≤ maxLen ∧ y.size ≤ maxLen ∧ -9223372036854775808 ≤ n ∧ n ≤ 9223372036854775807 := by
  obtain ⟨cs, rfl, hsz, hc⟩ := agg_cells Tryz.underlying93 levels_types levels_cells h
  obtain ⟨x, hx, hok⟩ := hc 0 _ rfl
  obtain ⟨s0, rfl, l0⟩ := cell_str ratT hok
  obtain ⟨x, hx1, hok⟩ := hc 1 _ rfl
  obtain ⟨s1, rfl, l1⟩ := cell_str ratT hok
  obtain ⟨x, hx2, hok⟩ := hc 2 _ rfl
  obtain ⟨n, rfl, hn⟩ := cell_int intT hok
  refine ⟨s0, s1, n, ?_, l0, l1, has_i64 hn⟩
  congr 1
  apply Array.ext_getElem?
  intro i
  match i with
  | 0 => exact hx
  | 1 => exact hx1
  | 2 => exact hx2
  | j + 3 => rw [Array.getElem?_eq_none (by have : cs.size = 3 := hsz; omega), Array.getElem?_eq_none (by simp)]
end Go.Proofs.YtjfjkiibmfgplaaGreatDoor
