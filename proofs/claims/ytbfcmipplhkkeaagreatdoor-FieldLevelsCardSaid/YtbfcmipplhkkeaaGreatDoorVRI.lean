import Derived.Test.YtbfcmipplhkkeaaGreatDoorVRA
/- The arguments of klippelaw13: a described mesh with two fields. -/
set_option maxRecDepth 100000
namespace Go.Proofs.YtbfcmipplhkkeaaGreatDoor
open Go.ChangeShapes Go.WideShapes Go.ChangeAt Go.RowKit Go.Lib
theorem ii0 : (Tryz.prog).cellTypes (Tryz.prog).depth 30 = some [5, 22, 22, 4, 22, 22, 22, 22, 22, 22, 4, 22, 22, 22, 22, 22, 22, 4] := by kernel_rfl
theorem ih0 : ∃ fs, (Tryz.prog).underlying 30 = some (.struct fs) := ⟨_, Tryz.underlying30⟩
theorem ics : (Tryz.prog).cellsOf 30 = 18 := by kernel_rfl
theorem oit {w : World} {r : Reach} {b : Nat} {v : Value} (h : Value.okWide Tryz.prog w r b 30 v) :
 ∃ (X V U : Int) (Z : Bool) (a0 S R Q O N : Int) (G : Bool) (M b1 L K J H : Int) (E : Bool),
  v = .agg #[.int .u8 X, .int .i8 V, .int .i8 U, .bool Z, .int .i8 a0, .int .i8 S, .int .i8 R, .int .i8 Q, .int .i8 O, .int .i8 N, .bool G, .int .i8 M, .int .i8 b1, .int .i8 L, .int .i8 K, .int .i8 J, .int .i8 H, .bool E] /\
  (0 <= X /\ X <= 255) /\ (-128 <= V /\ V <= 127) /\ (-128 <= U /\ U <= 127) /\ (∀ x ∈ [a0, S, R, Q, O, N], -128 <= x /\ x <= 127) /\ (∀ x ∈ [M, b1, L, K, J, H], -128 <= x /\ x <= 127) := by
 obtain ⟨fs, o⟩ := ih0;obtain ⟨cs, rfl, l, p⟩ := acs o ii0 ics h;have I : ∀ i, [5, 22, 22, 4, 22, 22, 22, 22, 22, 22, 4, 22, 22, 22, 22, 22, 22, 4][i]? = some 22 -> ∃ n, cs[i]? = some (Value.int .i8 n) /\ -128 <= n /\ n <= 127 := fun i hi => by
  obtain ⟨x, hx, Y⟩ := p i _ hi;obtain ⟨n, rfl, hn⟩ := cit i8T Y;exact ⟨n, hx, hi8 hn⟩
 have B : ∀ i, [5, 22, 22, 4, 22, 22, 22, 22, 22, 22, 4, 22, 22, 22, 22, 22, 22, 4][i]? = some 4 -> ∃ n, cs[i]? = some (Value.bool n) := fun i hi => by
  obtain ⟨x, hx, Y⟩ := p i _ hi;obtain ⟨n, rfl⟩ := cbl boolT Y;exact ⟨n, hx⟩
 obtain ⟨x, hx, Y⟩ := p 0 _ rfl;obtain ⟨X, rfl, m⟩ := cit u8T Y;obtain ⟨V, k, l1⟩ := I 1 rfl;obtain ⟨U, g, l2⟩ := I 2 rfl;obtain ⟨Z, f⟩ := B 3 rfl;obtain ⟨a0, e, l4⟩ := I 4 rfl;obtain ⟨S, d, l5⟩ := I 5 rfl;obtain ⟨R, c, l6⟩ := I 6 rfl;obtain ⟨Q, a, l7⟩ := I 7 rfl;obtain ⟨O, e8, l8⟩ := I 8 rfl;obtain ⟨N, e9, l9⟩ := I 9 rfl;obtain ⟨G, D⟩ := B 10 rfl;obtain ⟨M, C, h0⟩ := I 11 rfl;obtain ⟨b1, A, h1⟩ := I 12 rfl;obtain ⟨L, z, h2⟩ := I 13 rfl;obtain ⟨K, y, h3⟩ := I 14 rfl;obtain ⟨J, t, h4⟩ := I 15 rfl;obtain ⟨H, s, h5⟩ := I 16 rfl;obtain ⟨E, q⟩ := B 17 rfl;refine ⟨X, V, U, Z, a0, S, R, Q, O, N, G, M, b1, L, K, J, H, E, ?_, hu8 m, l1, l2, ?_, ?_⟩
 ·congr 1
  apply Array.ext_getElem?;intro i
  match i with
  | 0 => exact hx
  | 1 => exact k
  | 2 => exact g
  | 3 => exact f
  | 4 => exact e
  | 5 => exact d
  | 6 => exact c
  | 7 => exact a
  | 8 => exact e8
  | 9 => exact e9
  | 10 => exact D
  | 11 => exact C
  | 12 => exact A
  | 13 => exact z
  | 14 => exact y
  | 15 => exact t
  | 16 => exact s
  | 17 => exact q
  | j + 18 => rw [Array.getElem?_eq_none (by have : cs.size = 18 := l; omega), Array.getElem?_eq_none (by simp)]
 ·intro x hx
  simp only [List.mem_cons, List.not_mem_nil, or_false] at hx;rcases hx with rfl | rfl | rfl | rfl | rfl | rfl <;> assumption
 ·intro x hx
  simp only [List.mem_cons, List.not_mem_nil, or_false] at hx;rcases hx with rfl | rfl | rfl | rfl | rfl | rfl <;> assumption
end Go.Proofs.YtbfcmipplhkkeaaGreatDoor
