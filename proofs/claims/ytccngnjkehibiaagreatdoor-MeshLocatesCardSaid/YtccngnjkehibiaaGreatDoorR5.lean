/- The arguments of klippelaw12: a sheet, two small numbers, two integers. -/
import Derived.Test.YtccngnjkehibiaaGreatDoorR3
namespace Go.Proofs.YtccngnjkehibiaaGreatDoor
open Go.ChangeShapes Go.WideShapes Go.ChangeAt Go.RowKit Go.Lib

section
variable {P : Program} {w : World} {r : Reach} {b : Nat}
/-- An array by value: a cell for each of its plain parts. -/
theorem arr_cells {t : TypeId} {n : Nat} {e : TypeId} {ts : List TypeId} {v : Value} (ht : P.underlying t = some (.array n e)) (hts : P.cellTypes P.depth t = some ts) (hC : P.cellsOf t = ts.length) (h : Value.okWide P w r b t v) :
    ∃ cs : Array Value, v = .agg cs ∧ cs.size = ts.length ∧ ∀ (i : Nat) (u : TypeId), ts[i]? = some u → ∃ x, cs[i]? = some x ∧ Cell.okWide P w r b u x := by
  simp only [Value.okWide, ht] at h
  obtain ⟨cs, rfl, hsz, ts', hts', _, hall⟩ := h
  rw [hts] at hts'
  obtain rfl := Option.some.inj hts'
  refine ⟨cs, rfl, hsz.trans hC, fun i u hu => ?_⟩
  have hi : i < ts.length := (List.getElem?_eq_some_iff.1 hu).1
  have hi2 : i < cs.size := by omega
  obtain ⟨u', hu', hok⟩ := hall i cs[i] (Array.getElem?_eq_getElem hi2)
  rw [Nat.mod_eq_of_lt hi, hu] at hu'
  obtain rfl := Option.some.inj hu'
  exact ⟨cs[i], Array.getElem?_eq_getElem hi2, hok⟩
end

theorem sheet_types : (Tryz.prog).cellTypes (Tryz.prog).depth 49 = some [5, 46, 46, 4] := by kernel_rfl
theorem sheet_cells : (Tryz.prog).cellsOf 49 = 4 := by kernel_rfl
set_option maxRecDepth 100000 in
theorem open_sheet {w : World} {r : Reach} {b : Nat} {v : Value} (h : Value.okWide Tryz.prog w r b 49 v) :
    ∃ (kz s0 s1 : Int) (half : Bool), v = .agg #[.int .u8 kz, .int .i8 s0, .int .i8 s1, .bool half] ∧ (0 ≤ kz ∧ kz ≤ 255) ∧ (-128 ≤ s0 ∧ s0 ≤ 127) ∧ (-128 ≤ s1 ∧ s1 ≤ 127) := by
  obtain ⟨cs, rfl, hsz, hc⟩ := agg_cells Tryz.underlying49 sheet_types sheet_cells h
  obtain ⟨x, hx, hok⟩ := hc 0 _ rfl
  obtain ⟨kz, rfl, l0⟩ := cell_int u8T hok
  obtain ⟨x, hx1, hok⟩ := hc 1 _ rfl
  obtain ⟨s0, rfl, l1⟩ := cell_int i8T hok
  obtain ⟨x, hx2, hok⟩ := hc 2 _ rfl
  obtain ⟨s1, rfl, l2⟩ := cell_int i8T hok
  obtain ⟨x, hx3, hok⟩ := hc 3 _ rfl
  obtain ⟨half, rfl⟩ := cell_bool boolT hok
  refine ⟨kz, s0, s1, half, ?_, has_u8 l0, has_i8 l1, has_i8 l2⟩
  congr 1
  apply Array.ext_getElem?
  intro i
  match i with
  | 0 => exact hx
  | 1 => exact hx1
  | 2 => exact hx2
  | 3 => exact hx3
  | j + 4 => rw [Array.getElem?_eq_none (by have : cs.size = 4 := hsz; omega), Array.getElem?_eq_none (by simp)]

theorem b2_types : (Tryz.prog).cellTypes (Tryz.prog).depth 47 = some [46, 46] := by kernel_rfl
theorem b2_cells : (Tryz.prog).cellsOf 47 = 2 := by kernel_rfl
set_option maxRecDepth 100000 in
theorem open_b2 {w : World} {r : Reach} {b : Nat} {v : Value} (h : Value.okWide Tryz.prog w r b 47 v) :
    ∃ x y : Int, v = .agg #[.int .i8 x, .int .i8 y] ∧ (-128 ≤ x ∧ x ≤ 127) ∧ (-128 ≤ y ∧ y ≤ 127) := by
  obtain ⟨cs, rfl, hsz, hc⟩ := arr_cells Tryz.underlying47 b2_types b2_cells h
  obtain ⟨x, hx, hok⟩ := hc 0 _ rfl
  obtain ⟨s0, rfl, l0⟩ := cell_int i8T hok
  obtain ⟨x, hx1, hok⟩ := hc 1 _ rfl
  obtain ⟨s1, rfl, l1⟩ := cell_int i8T hok
  refine ⟨s0, s1, ?_, has_i8 l0, has_i8 l1⟩
  congr 1
  apply Array.ext_getElem?
  intro i
  match i with
  | 0 => exact hx
  | 1 => exact hx1
  | j + 2 => rw [Array.getElem?_eq_none (by have : cs.size = 2 := hsz; omega), Array.getElem?_eq_none (by simp)]

theorem i2_types : (Tryz.prog).cellTypes (Tryz.prog).depth 25 = some [3, 3] := by kernel_rfl
theorem i2_cells : (Tryz.prog).cellsOf 25 = 2 := by kernel_rfl
set_option maxRecDepth 100000 in
theorem open_i2 {w : World} {r : Reach} {b : Nat} {v : Value} (h : Value.okWide Tryz.prog w r b 25 v) :
    ∃ x y : Int, v = .agg #[.int .i64 x, .int .i64 y] ∧ (-9223372036854775808 ≤ x ∧ x ≤ 9223372036854775807) ∧ (-9223372036854775808 ≤ y ∧ y ≤ 9223372036854775807) := by
  obtain ⟨cs, rfl, hsz, hc⟩ := arr_cells Tryz.underlying25 i2_types i2_cells h
  obtain ⟨x, hx, hok⟩ := hc 0 _ rfl
  obtain ⟨s0, rfl, l0⟩ := cell_int intT hok
  obtain ⟨x, hx1, hok⟩ := hc 1 _ rfl
  obtain ⟨s1, rfl, l1⟩ := cell_int intT hok
  refine ⟨s0, s1, ?_, has_i64 l0, has_i64 l1⟩
  congr 1
  apply Array.ext_getElem?
  intro i
  match i with
  | 0 => exact hx
  | 1 => exact hx1
  | j + 2 => rw [Array.getElem?_eq_none (by have : cs.size = 2 := hsz; omega), Array.getElem?_eq_none (by simp)]
end Go.Proofs.YtccngnjkehibiaaGreatDoor
