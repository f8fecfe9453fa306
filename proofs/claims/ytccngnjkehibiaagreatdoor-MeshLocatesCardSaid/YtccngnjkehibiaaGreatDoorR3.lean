/- More arguments of laws: integers, numbers, points. -/
import Derived.Test.YtccngnjkehibiaaGreatDoorR2
namespace Go.Proofs.YtccngnjkehibiaaGreatDoor
open Go.ChangeShapes Go.WideShapes Go.ChangeAt Go.RowKit Go.Lib

theorem okWide_cell {P : Program} {w : World} {r : Reach} {b : Nat} {t : TypeId} {d : TypeDesc} {v : Value} (ht : P.underlying t = some d) (h1 : ∀ fs, d ≠ .struct fs) (h2 : ∀ n e, d ≠ .array n e) (h : Value.okWide P w r b t v) : Cell.okWide P w r b t v := by
  unfold Value.okWide at h
  rw [ht] at h
  cases d with
  | struct fs => exact absurd rfl (h1 fs)
  | array n e => exact absurd rfl (h2 n e)
  | _ => exact h
theorem okWide_cell_int {P : Program} {w : World} {r : Reach} {b : Nat} {t : TypeId} {k : IntKind} {v : Value} (ht : P.underlying t = some (.int k)) (h : Value.okWide P w r b t v) : Cell.okWide P w r b t v :=
  okWide_cell ht (by intro _ e; cases e) (by intro _ _ e; cases e) h
theorem okWide_cell_str {P : Program} {w : World} {r : Reach} {b : Nat} {t : TypeId} {v : Value} (ht : P.underlying t = some .string) (h : Value.okWide P w r b t v) : Cell.okWide P w r b t v :=
  okWide_cell ht (by intro _ e; cases e) (by intro _ _ e; cases e) h

set_option maxRecDepth 100000 in
theorem open_i64 {w : World} {r : Reach} {b : Nat} {v : Value} (h : Value.okWide Tryz.prog w r b 3 v) : ∃ n, v = .int .i64 n ∧ -9223372036854775808 ≤ n ∧ n ≤ 9223372036854775807 := by
  have h' := okWide_cell_int intT h
  obtain ⟨n, rfl, hn⟩ := cell_int intT h'
  exact ⟨n, rfl, has_i64 hn⟩
set_option maxRecDepth 100000 in
theorem open_u8 {w : World} {r : Reach} {b : Nat} {v : Value} (h : Value.okWide Tryz.prog w r b 5 v) : ∃ n, v = .int .u8 n ∧ 0 ≤ n ∧ n ≤ 255 := by
  have h' := okWide_cell_int u8T h
  obtain ⟨n, rfl, hn⟩ := cell_int u8T h'
  exact ⟨n, rfl, has_u8 hn⟩
set_option maxRecDepth 100000 in
theorem open_rat {w : World} {r : Reach} {b : Nat} {v : Value} (h : Value.okWide Tryz.prog w r b 22 v) : ∃ s, v = .string s ∧ s.size ≤ maxLen := by
  have h' := okWide_cell_str ratT h
  exact cell_str ratT h'
theorem point_types : (Tryz.prog).cellTypes (Tryz.prog).depth 24 = some [22, 22] := by kernel_rfl
theorem point_cells : (Tryz.prog).cellsOf 24 = 2 := by kernel_rfl
set_option maxRecDepth 100000 in
theorem open_point {w : World} {r : Reach} {b : Nat} {v : Value} (h : Value.okWide Tryz.prog w r b 24 v) :
    ∃ x y : ByteArray, v = .agg #[.string x, .string y] ∧ x.size ≤ maxLen ∧ y.size ≤ maxLen := by
  obtain ⟨cs, rfl, hsz, hc⟩ := agg_cells Tryz.underlying24 point_types point_cells h
  obtain ⟨x, hx, hok⟩ := hc 0 _ rfl
  obtain ⟨s0, rfl, l0⟩ := cell_str ratT hok
  obtain ⟨x, hx1, hok⟩ := hc 1 _ rfl
  obtain ⟨s1, rfl, l1⟩ := cell_str ratT hok
  refine ⟨s0, s1, ?_, l0, l1⟩
  congr 1
  apply Array.ext_getElem?
  intro i
  match i with
  | 0 => exact hx
  | 1 => exact hx1
  | j + 2 => rw [Array.getElem?_eq_none (by have : cs.size = 2 := hsz; omega), Array.getElem?_eq_none (by simp)]
end Go.Proofs.YtccngnjkehibiaaGreatDoor
