import Derived.Test.YtbfcmipplhkkeaaGreatDoorRRA
/- The arguments of klippelaw13: a described mesh with two fields. -/
set_option maxRecDepth 100000
namespace Go.Proofs.YtbfcmipplhkkeaaGreatDoor
open Go.ChangeShapes Go.WideShapes Go.ChangeAt Go.RowKit Go.Lib
theorem input_types : (Tryz.prog).cellTypes (Tryz.prog).depth 30 = some [5, 22, 22, 4, 22, 22, 22, 22, 22, 22, 4, 22, 22, 22, 22, 22, 22, 4] := by kernel_rfl
theorem input_struct : ∃ fs, (Tryz.prog).underlying 30 = some (.struct fs) := ⟨_, Tryz.underlying30⟩
theorem input_cells : (Tryz.prog).cellsOf 30 = 18 := by kernel_rfl
theorem open_input {w : World} {r : Reach} {b : Nat} {v : Value} (h : Value.okWide Tryz.prog w r b 30 v) :
 ∃ (kz s0 s1 : Int) (half : Bool) (a0 a1 a2 a3 a4 a5 : Int) (ah : Bool) (b0 b1 b2 b3 b4 b5 : Int) (bh : Bool),
  v = .agg #[.int .u8 kz, .int .i8 s0, .int .i8 s1, .bool half, .int .i8 a0, .int .i8 a1, .int .i8 a2, .int .i8 a3, .int .i8 a4, .int .i8 a5, .bool ah, .int .i8 b0, .int .i8 b1, .int .i8 b2, .int .i8 b3, .int .i8 b4, .int .i8 b5, .bool bh] /\
  (0 <= kz /\ kz <= 255) /\ (-128 <= s0 /\ s0 <= 127) /\ (-128 <= s1 /\ s1 <= 127) /\ (∀ x ∈ [a0, a1, a2, a3, a4, a5], -128 <= x /\ x <= 127) /\ (∀ x ∈ [b0, b1, b2, b3, b4, b5], -128 <= x /\ x <= 127) := by
 obtain ⟨fs, hfs⟩ := input_struct;obtain ⟨cs, rfl, hsz, hc⟩ := agg_cells hfs input_types input_cells h;have I : ∀ i, [5, 22, 22, 4, 22, 22, 22, 22, 22, 22, 4, 22, 22, 22, 22, 22, 22, 4][i]? = some 22 -> ∃ n, cs[i]? = some (Value.int .i8 n) /\ -128 <= n /\ n <= 127 := fun i hi => by
  obtain ⟨x, hx, hok⟩ := hc i _ hi;obtain ⟨n, rfl, hn⟩ := cell_int i8T hok;exact ⟨n, hx, has_i8 hn⟩
 have B : ∀ i, [5, 22, 22, 4, 22, 22, 22, 22, 22, 22, 4, 22, 22, 22, 22, 22, 22, 4][i]? = some 4 -> ∃ n, cs[i]? = some (Value.bool n) := fun i hi => by
  obtain ⟨x, hx, hok⟩ := hc i _ hi;obtain ⟨n, rfl⟩ := cell_bool boolT hok;exact ⟨n, hx⟩
 obtain ⟨x, hx, hok⟩ := hc 0 _ rfl;obtain ⟨kz, rfl, hkz⟩ := cell_int u8T hok;obtain ⟨s0, e1, l1⟩ := I 1 rfl;obtain ⟨s1, e2, l2⟩ := I 2 rfl;obtain ⟨half, e3⟩ := B 3 rfl;obtain ⟨a0, e4, l4⟩ := I 4 rfl;obtain ⟨a1, e5, l5⟩ := I 5 rfl;obtain ⟨a2, e6, l6⟩ := I 6 rfl;obtain ⟨a3, e7, l7⟩ := I 7 rfl;obtain ⟨a4, e8, l8⟩ := I 8 rfl;obtain ⟨a5, e9, l9⟩ := I 9 rfl;obtain ⟨ah, e10⟩ := B 10 rfl;obtain ⟨b0, e11, l11⟩ := I 11 rfl;obtain ⟨b1, e12, l12⟩ := I 12 rfl;obtain ⟨b2, e13, l13⟩ := I 13 rfl;obtain ⟨b3, e14, l14⟩ := I 14 rfl;obtain ⟨b4, e15, l15⟩ := I 15 rfl;obtain ⟨b5, e16, l16⟩ := I 16 rfl;obtain ⟨bh, e17⟩ := B 17 rfl;refine ⟨kz, s0, s1, half, a0, a1, a2, a3, a4, a5, ah, b0, b1, b2, b3, b4, b5, bh, ?_, has_u8 hkz, l1, l2, ?_, ?_⟩
 ·congr 1
  apply Array.ext_getElem?;intro i
  match i with
  | 0 => exact hx
  | 1 => exact e1
  | 2 => exact e2
  | 3 => exact e3
  | 4 => exact e4
  | 5 => exact e5
  | 6 => exact e6
  | 7 => exact e7
  | 8 => exact e8
  | 9 => exact e9
  | 10 => exact e10
  | 11 => exact e11
  | 12 => exact e12
  | 13 => exact e13
  | 14 => exact e14
  | 15 => exact e15
  | 16 => exact e16
  | 17 => exact e17
  | j + 18 => rw [Array.getElem?_eq_none (by have : cs.size = 18 := hsz; omega), Array.getElem?_eq_none (by simp)]
 ·intro x hx
  simp only [List.mem_cons, List.not_mem_nil, or_false] at hx;rcases hx with rfl | rfl | rfl | rfl | rfl | rfl <;> assumption
 ·intro x hx
  simp only [List.mem_cons, List.not_mem_nil, or_false] at hx;rcases hx with rfl | rfl | rfl | rfl | rfl | rfl <;> assumption
theorem open_i8 {w : World} {r : Reach} {b : Nat} {v : Value} (h : Value.okWide Tryz.prog w r b 22 v) : ∃ n, v = .int .i8 n /\ -128 <= n /\ n <= 127 := by
 have h' := okWide_cell_int i8T h;obtain ⟨n, rfl, hn⟩ := cell_int i8T h';exact ⟨n, rfl, has_i8 hn⟩
end Go.Proofs.YtbfcmipplhkkeaaGreatDoor
