import Derived.Test.YtegiemcnfbchoaaGreatDoorE5
import Derived.Test.YtegiemcnfbchoaaGreatDoorF30
import Derived.Test.YtegiemcnfbchoaaGreatDoorF5
import Derived.Laws.EntriesVeiled
import Derived.Test.YtegiemcnfbchoaaGreatDoorE2
import Derived.Deep.RegionHeld3
import Derived.Deep.RegionLaw
import Derived.Deep.DeepCutAuto
import Derived.Test.YtegiemcnfbchoaaGreatDoorW3
import Derived.Deep.MidRow
/- Plain: the volume of the part of a triangle above a height: the forms that it has; its size. Plain: a volume above 0 less that of the opposite heights is the whole. Plain: a field has its numbers as values at the points of a sheet. Plain: what FieldLaws says of sums and excesses. The walks over field.combine with rational.Sub, field.Excess. Plain: the size of a field's volume above a height. Plain: the size of a field's volume above a height: triangle by triangle, and whole. klippelaw38.ThicknessVertical returns true at every plan and place: the plain part. Plain: a field's volume over a sheet has at most 200 digits. -/
set_option maxHeartbeats 8000000
set_option maxRecDepth 100000
namespace Go.Proofs.YtegiemcnfbchoaaGreatDoor
open Go.RowKit Go.Lib
def CapP (A x y w V : Rat) : Prop := (y < 0 ∨ w < 0) ∧ 0 < x ∧ y ≤ 0 ∧ w ≤ 0 ∧ ∃ r s : Rat, r * (x - y) = x ∧ s * (x - w) = x ∧ 6 * V = A * (x * r * s)
def NotP (A x y w V : Rat) : Prop := (0 < y ∨ 0 < w) ∧ x < 0 ∧ 0 ≤ y ∧ 0 ≤ w ∧ ∃ r s : Rat, r * (x - y) = x ∧ s * (x - w) = x ∧ 6 * V = A * (x + y + w) - A * (x * r * s)
def VolP (A x y w V : Rat) : Prop :=
 (x ≤ 0 ∧ y ≤ 0 ∧ w ≤ 0 ∧ V = 0) ∨ (0 ≤ x ∧ 0 ≤ y ∧ 0 ≤ w ∧ 6 * V = A * (x + y + w)) ∨ (CapP A x y w V ∨ NotP A x y w V) ∨ (CapP A y w x V ∨ NotP A y w x V) ∨ (CapP A w x y V ∨ NotP A w x y V)
theorem sgn_neg {q : Rat} (h : q < 0) : q.num.sign = -1 := by rw [sign_if, if_pos h]
theorem sgn_pos {q : Rat} (h : 0 < q) : q.num.sign = 1 := by rw [sign_if, if_neg (by grind), if_pos h]
theorem sgn_zero {q : Rat} (h : q = 0) : q.num.sign = 0 := by rw [sign_if, h]; decide +kernel
theorem integ_forms (c0 c1 c2 : Cor) (z : Rat) : VolP (areaQ c0.1 c1.1 c2.1) (c0.2 - z) (c1.2 - z) (c2.2 - z) (integ (cutL c0 c1 c2 z) z) := by
 obtain ⟨⟨ax, ay⟩, az⟩ := c0
 obtain ⟨⟨bx, bY⟩, bz⟩ := c1
 obtain ⟨⟨cx, cy⟩, cz⟩ := c2
 have k01 := @cross_share (az - z) (bz - z)
 have k12 := @cross_share (bz - z) (cz - z)
 have k20 := @cross_share (cz - z) (az - z)
 simp only [cutL, someTo, cutTo, corA, corB, cutS, crossK, towQ]
 generalize (az - z) / ((az - z) - (bz - z)) = r01 at *
 generalize (bz - z) / ((bz - z) - (cz - z)) = r12 at *
 generalize (cz - z) / ((cz - z) - (az - z)) = r20 at *
 have tri : ∀ q : Rat, q < 0 ∨ q = 0 ∨ 0 < q := fun q => by grind
 rcases tri (az - z) with h0 | h0 | h0 <;> rcases tri (bz - z) with h1 | h1 | h1 <;> rcases tri (cz - z) with h2 | h2 | h2
 all_goals
  first | rw [sgn_neg h0] at * | rw [sgn_zero h0] at * | rw [sgn_pos h0] at *
  first | rw [sgn_neg h1] at * | rw [sgn_zero h1] at * | rw [sgn_pos h1] at *
  first | rw [sgn_neg h2] at * | rw [sgn_zero h2] at * | rw [sgn_pos h2] at *
  simp only [Int.reduceLE, Int.reduceLT, Int.reduceMul, Int.reduceNeg, decide_true, decide_false, Bool.or_true, Bool.or_false, if_false, if_pos, Bool.false_eq_true, List.nil_append, List.cons_append, List.append_nil, forall_const] at *
  simp only [integ, fanI, corI, areaQ, List.length_cons, List.length_nil, List.getElem?_cons_zero, List.getElem?_cons_succ, Option.getD_some, Nat.reduceAdd, Nat.reduceSub, Nat.zero_add]
 ·exact .inl ⟨by grind, by grind, by grind, rfl⟩
 ·exact .inl ⟨by grind, by grind, by grind, rfl⟩
 ·obtain ⟨_, _, e1⟩ := k20
  obtain ⟨_, _, e2⟩ := k12
  exact .inr (.inr (.inr (.inr (.inl ⟨.inl (by grind), by grind, by grind, by grind, r20, (1 - r12), by grind, by grind, by grind⟩))))
 ·exact .inl ⟨by grind, by grind, by grind, rfl⟩
 ·exact .inl ⟨by grind, by grind, by grind, rfl⟩
 ·obtain ⟨_, _, e1⟩ := k20
  exact .inr (.inr (.inr (.inr (.inl ⟨.inl (by grind), by grind, by grind, by grind, r20, 1, by grind, by grind, by grind⟩))))
 ·obtain ⟨_, _, e1⟩ := k12
  obtain ⟨_, _, e2⟩ := k01
  exact .inr (.inr (.inr (.inl (.inl ⟨.inl (by grind), by grind, by grind, by grind, r12, (1 - r01), by grind, by grind, by grind⟩))))
 ·obtain ⟨_, _, e2⟩ := k01
  exact .inr (.inr (.inr (.inl (.inl ⟨.inr (by grind), by grind, by grind, by grind, 1, (1 - r01), by grind, by grind, by grind⟩))))
 ·obtain ⟨_, _, e1⟩ := k01
  obtain ⟨_, _, e2⟩ := k20
  exact .inr (.inr (.inl (.inr ⟨.inl (by grind), by grind, by grind, by grind, r01, (1 - r20), by grind, by grind, by grind⟩)))
 ·exact .inl ⟨by grind, by grind, by grind, rfl⟩
 ·exact .inl ⟨by grind, by grind, by grind, rfl⟩
 ·obtain ⟨_, _, e2⟩ := k12
  exact .inr (.inr (.inr (.inr (.inl ⟨.inr (by grind), by grind, by grind, by grind, 1, (1 - r12), by grind, by grind, by grind⟩))))
 ·exact .inl ⟨by grind, by grind, by grind, rfl⟩
 ·exact .inl ⟨by grind, by grind, by grind, rfl⟩
 ·exact .inr (.inl ⟨by grind, by grind, by grind, by grind⟩)
 ·obtain ⟨_, _, e1⟩ := k12
  exact .inr (.inr (.inr (.inl (.inl ⟨.inl (by grind), by grind, by grind, by grind, r12, 1, by grind, by grind, by grind⟩))))
 ·exact .inr (.inl ⟨by grind, by grind, by grind, by grind⟩)
 ·exact .inr (.inl ⟨by grind, by grind, by grind, by grind⟩)
 ·obtain ⟨_, _, e1⟩ := k01
  obtain ⟨_, _, e2⟩ := k20
  exact .inr (.inr (.inl (.inl ⟨.inl (by grind), by grind, by grind, by grind, r01, (1 - r20), by grind, by grind, by grind⟩)))
 ·obtain ⟨_, _, e1⟩ := k01
  exact .inr (.inr (.inl (.inl ⟨.inl (by grind), by grind, by grind, by grind, r01, 1, by grind, by grind, by grind⟩)))
 ·obtain ⟨_, _, e1⟩ := k12
  obtain ⟨_, _, e2⟩ := k01
  exact .inr (.inr (.inr (.inl (.inr ⟨.inl (by grind), by grind, by grind, by grind, r12, (1 - r01), by grind, by grind, by grind⟩))))
 ·obtain ⟨_, _, e2⟩ := k20
  exact .inr (.inr (.inl (.inl ⟨.inr (by grind), by grind, by grind, by grind, 1, (1 - r20), by grind, by grind, by grind⟩)))
 ·exact .inr (.inl ⟨by grind, by grind, by grind, by grind⟩)
 ·exact .inr (.inl ⟨by grind, by grind, by grind, by grind⟩)
 ·obtain ⟨_, _, e1⟩ := k20
  obtain ⟨_, _, e2⟩ := k12
  exact .inr (.inr (.inr (.inr (.inr ⟨.inl (by grind), by grind, by grind, by grind, r20, (1 - r12), by grind, by grind, by grind⟩))))
 ·exact .inr (.inl ⟨by grind, by grind, by grind, by grind⟩)
 ·exact .inr (.inl ⟨by grind, by grind, by grind, by grind⟩)
section
variable {A x y w V V' : Rat}
theorem cap_not (h : CapP A x y w V) (h' : NotP A (-x) (-y) (-w) V') : 6 * (V - V') = A * (x + y + w) := by
 obtain ⟨-, g1, g2, g3, r, s, hr, hs, hV⟩ := h
 obtain ⟨-, -, -, -, r', s', hr', hs', hV'⟩ := h'
 have n1 : x - y ≠ 0 := by grind
 have n2 : x - w ≠ 0 := by grind
 have e1 : r' = r := by
  have a1 : (r' - r) * (x - y) = 0 := by grind
  rcases Rat.mul_eq_zero.1 a1 with h | h
  ·grind
  ·exact absurd h n1
 have e2 : s' = s := by
  have a1 : (s' - s) * (x - w) = 0 := by grind
  rcases Rat.mul_eq_zero.1 a1 with h | h
  ·grind
  ·exact absurd h n2
 subst e1 e2
 grind
def TipP (A x y w V : Rat) : Prop := CapP A x y w V ∨ NotP A x y w V
theorem tip_same (h : TipP A x y w V) (h' : TipP A (-x) (-y) (-w) V') : 6 * (V - V') = A * (x + y + w) := by
 rcases h with h | h <;> rcases h' with h' | h'
 ·obtain ⟨-, g1, -⟩ := h
  obtain ⟨-, g2, -⟩ := h'
  exfalso; grind
 ·exact cap_not h h'
 ·have e := cap_not h' (V' := V) (by rw [Rat.neg_neg, Rat.neg_neg, Rat.neg_neg]; exact h)
  grind
 ·obtain ⟨-, g1, -⟩ := h
  obtain ⟨-, g2, -⟩ := h'
  exfalso; grind
theorem next_aux {r s r' s' : Rat} (hx : x ≠ 0) (hy : y ≠ 0) (hxy : x - y ≠ 0) (hr : r * (x - y) = x) (hs : s * x = x) (hr' : r' * -y = -y) (hs' : s' * (x - y) = -y) : x * r * s - -y * r' * s' = x + y := by
 have e1 : s = 1 := by
  have a1 : (s - 1) * x = 0 := by grind
  rcases Rat.mul_eq_zero.1 a1 with h | h
  ·grind
  ·exact absurd h hx
 have e2 : r' = 1 := by
  have a1 : (r' - 1) * y = 0 := by grind
  rcases Rat.mul_eq_zero.1 a1 with h | h
  ·grind
  ·exact absurd h hy
 subst e1 e2
 have a1 : (x * r + y * s' - (x + y)) * (x - y) = 0 := by grind
 rcases Rat.mul_eq_zero.1 a1 with h | h
 ·grind
 ·exact absurd h hxy
theorem tip_next (h : TipP A x y w V) (h' : TipP A (-y) (-w) (-x) V') : 6 * (V - V') = A * (x + y + w) := by
 rcases h with ⟨-, g1, g2, g3, r, s, hr, hs, hV⟩ | ⟨-, g1, g2, g3, r, s, hr, hs, hV⟩ <;> rcases h' with ⟨-, k1, k2, k3, r', s', hr', hs', hV'⟩ | ⟨-, k1, k2, k3, r', s', hr', hs', hV'⟩
 ·obtain rfl : w = 0 := by grind
  have e := next_aux (x := x) (y := y) (r := r) (s := s) (r' := r') (s' := s') (by grind) (by grind) (by grind) hr (by grind) (by grind) (by grind)
  grind
 ·exfalso; grind
 ·exfalso; grind
 ·obtain rfl : w = 0 := by grind
  have e := next_aux (x := x) (y := y) (r := r) (s := s) (r' := r') (s' := s') (by grind) (by grind) (by grind) hr (by grind) (by grind) (by grind)
  grind
theorem tip_prev (h : TipP A x y w V) (h' : TipP A (-w) (-x) (-y) V') : 6 * (V - V') = A * (x + y + w) := by
 have e := tip_next h' (V' := V) (by rw [Rat.neg_neg, Rat.neg_neg, Rat.neg_neg]; exact h)
 grind
theorem TipP.sgn (h : TipP A x y w V) : ((y < 0 ∨ w < 0) ∧ 0 < x ∧ y ≤ 0 ∧ w ≤ 0) ∨ ((0 < y ∨ 0 < w) ∧ x < 0 ∧ 0 ≤ y ∧ 0 ≤ w) := by
 rcases h with ⟨g0, g1, g2, g3, -⟩ | ⟨g0, g1, g2, g3, -⟩
 ·exact .inl ⟨g0, g1, g2, g3⟩
 ·exact .inr ⟨g0, g1, g2, g3⟩
theorem vol_dif (h : VolP A x y w V) (h' : VolP A (-x) (-y) (-w) V') : 6 * (V - V') = A * (x + y + w) := by
 rcases h with ⟨a0, a1, a2, a3⟩ | ⟨a0, a1, a2, a3⟩ | h | h | h
 ·rcases h' with ⟨b0, b1, b2, b3⟩ | ⟨b0, b1, b2, b3⟩ | h' | h' | h'
  ·obtain ⟨rfl, rfl, rfl⟩ : x = 0 ∧ y = 0 ∧ w = 0 := ⟨by grind, by grind, by grind⟩
   grind
  ·grind
  all_goals (exfalso; have g := TipP.sgn h'; grind)
 ·rcases h' with ⟨b0, b1, b2, b3⟩ | ⟨b0, b1, b2, b3⟩ | h' | h' | h'
  ·grind
  ·obtain ⟨rfl, rfl, rfl⟩ : x = 0 ∧ y = 0 ∧ w = 0 := ⟨by grind, by grind, by grind⟩
   grind
  all_goals (exfalso; have g := TipP.sgn h'; grind)
 ·rcases h' with ⟨b0, b1, b2, b3⟩ | ⟨b0, b1, b2, b3⟩ | h' | h' | h'
  ·exfalso; have g := TipP.sgn h; grind
  ·exfalso; have g := TipP.sgn h; grind
  ·exact tip_same h h'
  ·exact tip_next h h'
  ·exact tip_prev h h'
 ·rcases h' with ⟨b0, b1, b2, b3⟩ | ⟨b0, b1, b2, b3⟩ | h' | h' | h'
  ·exfalso; have g := TipP.sgn h; grind
  ·exfalso; have g := TipP.sgn h; grind
  ·have := tip_prev h h'; grind
  ·have := tip_same h h'; grind
  ·have := tip_next h h'; grind
 ·rcases h' with ⟨b0, b1, b2, b3⟩ | ⟨b0, b1, b2, b3⟩ | h' | h' | h'
  ·exfalso; have g := TipP.sgn h; grind
  ·exfalso; have g := TipP.sgn h; grind
  ·have := tip_next h h'; grind
  ·have := tip_prev h h'; grind
  ·have := tip_same h h'; grind
end
end Go.Proofs.YtegiemcnfbchoaaGreatDoor
namespace Go.Proofs.YtegiemcnfbchoaaGreatDoor
open Go.RowKit Go.Lib
theorem slope_fits {A B C : PtQ} {a b c : Rat} (h : areaQ A B C ≠ 0) : (slopeQ A B C a b c).1 * (B.1 - A.1) + (slopeQ A B C a b c).2 * (B.2 - A.2) = b - a ∧ (slopeQ A B C a b c).1 * (C.1 - A.1) + (slopeQ A B C a b c).2 * (C.2 - A.2) = c - a := by
 unfold slopeQ minorQ
 unfold areaQ at h
 dsimp only
 have hd : (B.1 - A.1) * (C.2 - A.2) - (B.2 - A.2) * (C.1 - A.1) ≠ 0 := h
 generalize hD : (B.1 - A.1) * (C.2 - A.2) - (B.2 - A.2) * (C.1 - A.1) = D at *
 have hi : 1 / D * D = 1 := by rw [Rat.div_mul_cancel hd]
 generalize 1 / D = k at *
 constructor
 ·have : (b - a) * (k * D) = b - a := by rw [hi, Rat.mul_one]
  grind
 ·have : (c - a) * (k * D) = c - a := by rw [hi, Rat.mul_one]
  grind
theorem onQ_corner {P : List PtQ} {F : List Rat} {tr : Tri} (h : areaQ (ptI P tr.1) (ptI P tr.2.1) (ptI P tr.2.2) ≠ 0) {i : Int} (hi : i ∈ idxOf tr) : onQ P F tr (ptI P i) = hI F i := by
 obtain ⟨e1, e2⟩ := slope_fits (a := hI F tr.1) (b := hI F tr.2.1) (c := hI F tr.2.2) h
 unfold onQ slopeT
 simp only [idxOf, List.mem_cons, List.not_mem_nil, or_false] at hi
 rcases hi with rfl | rfl | rfl
 ·grind
 ·generalize slopeQ (ptI P tr.1) (ptI P tr.2.1) (ptI P tr.2.2) (hI F tr.1) (hI F tr.2.1) (hI F tr.2.2) = S at *
  grind
 ·generalize slopeQ (ptI P tr.1) (ptI P tr.2.1) (ptI P tr.2.2) (hI F tr.1) (hI F tr.2.1) (hI F tr.2.2) = S at *
  grind
def cornerB (P : List PtQ) (T : List Tri) : Bool := (List.range P.length).all fun i => (List.range T.length).any fun t => insideT P T (ptI P i) t && ((List.range t).all fun j => !insideT P T (ptI P i) j) && (idxOf (T[t]?.getD (0, 0, 0))).any fun x => decide (x = (i : Int))
theorem shape_corner (k : Nat) : cornerB (shapeQ k) (shapeT k) = true := by
 unfold shapeQ shapeP shapeT
 split <;> decide +kernel
theorem ptI_move {s t d : Rat} {P : List PtQ} {i : Int} (h0 : 0 ≤ i) (h1 : i < (P.length : Int)) : ptI (P.map (moveP s t d)) i = moveP s t d (ptI P i) := by
 unfold ptI
 rw [List.getElem?_map, List.getElem?_eq_getElem (show i.toNat < P.length by omega)]
 rfl
theorem inside_move {s t d : Rat} (hd : 0 < d) {P : List PtQ} {T : List Tri} (hidx : ∀ tr ∈ T, ∀ x ∈ idxOf tr, 0 ≤ x ∧ x < (P.length : Int)) (p : PtQ) (i : Nat) : insideT (P.map (moveP s t d)) T (moveP s t d p) i = insideT P T p i := by
 unfold insideT
 cases h : T[i]? with
 | none => rfl
 | some tr =>
   have hm := List.mem_of_getElem? h
   have q0 := hidx tr hm tr.1 (by simp [idxOf])
   have q1 := hidx tr hm tr.2.1 (by simp [idxOf])
   have q2 := hidx tr hm tr.2.2 (by simp [idxOf])
   show insideB _ _ _ _ = insideB _ _ _ _
   rw [ptI_move q0.1 q0.2, ptI_move q1.1 q1.2, ptI_move q2.1 q2.2]
   unfold insideB
   rw [turnZ_move _ _ _ hd, turnZ_move _ _ _ hd, turnZ_move _ _ _ hd]
theorem sheet_moved (k : Nat) (s0 s1 : Int) (half : Bool) : sheetP k s0 s1 half = (shapeQ k).map (moveP (s0.tmod 8 : Int) (s1.tmod 8 : Int) (1 / (halfD half : Rat))) := by
 unfold sheetP shapeQ
 rw [List.map_map]
 refine List.map_congr_left fun p _ => ?_
 show (_, _) = moveP _ _ _ _
 unfold moveP
 rw [placeQ_move, placeQ_move]
theorem sheet_corner (k : Nat) (s0 s1 : Int) (half : Bool) (i : Nat) (hi : i < (sheetP k s0 s1 half).length) : ∃ (t : Nat) (tr : Tri) (l : List Int), (shapeT k)[t]? = some tr ∧ (i : Int) ∈ idxOf tr ∧ locN (sheetP k s0 s1 half) (shapeT k) (ptI (sheetP k s0 s1 half) i) (shapeT k).length = (t : Int) :: l := by
 have hok := sheet_ok k s0 s1 half
 rw [sheet_moved] at *
 have hd : (0 : Rat) < 1 / (halfD half : Rat) := by cases half <;> decide +kernel
 have hlen : ((shapeQ k).map (moveP (s0.tmod 8 : Int) (s1.tmod 8 : Int) (1 / (halfD half : Rat)))).length = (shapeQ k).length := List.length_map ..
 have hidx := hok.idx
 rw [hlen] at hi hidx
 have hc := shape_corner k
 unfold cornerB at hc
 rw [List.all_eq_true] at hc
 have h1 := hc i (List.mem_range.2 hi)
 rw [List.any_eq_true] at h1
 obtain ⟨t, ht, h2⟩ := h1
 have htl := List.mem_range.1 ht
 rw [Bool.and_eq_true, Bool.and_eq_true, List.all_eq_true, List.any_eq_true] at h2
 obtain ⟨⟨h3, h4⟩, x, hx, h5⟩ := h2
 rw [List.getElem?_eq_getElem htl] at hx
 have hxi : x = (i : Int) := of_decide_eq_true h5
 rw [hxi] at hx
 have hpi : ptI ((shapeQ k).map (moveP (s0.tmod 8 : Int) (s1.tmod 8 : Int) (1 / (halfD half : Rat)))) (i : Int) = moveP (s0.tmod 8 : Int) (s1.tmod 8 : Int) (1 / (halfD half : Rat)) (ptI (shapeQ k) (i : Int)) := ptI_move (by omega) (by omega)
 rw [hpi]
 obtain ⟨l, hl⟩ := locN_head (P := (shapeQ k).map (moveP (s0.tmod 8 : Int) (s1.tmod 8 : Int) (1 / (halfD half : Rat)))) (T := shapeT k) (p := moveP (s0.tmod 8 : Int) (s1.tmod 8 : Int) (1 / (halfD half : Rat)) (ptI (shapeQ k) (i : Int))) htl (by rw [inside_move hd hidx]; exact h3) (fun j hj => by
  rw [inside_move hd hidx]
  have := h4 j (List.mem_range.2 hj)
  simpa using this)
 exact ⟨t, _, l, List.getElem?_eq_getElem htl, hx, hl⟩
theorem hI_sum {F G : List Rat} (h : F.length = G.length) (z : Int) : hI (sumQ F G) z = hI F z + hI G z := by
 unfold hI sumQ
 rw [List.getElem?_zipWith]
 rcases Nat.lt_or_ge z.toNat F.length with h1 | h1
 ·rw [List.getElem?_eq_getElem h1, List.getElem?_eq_getElem (by omega : z.toNat < G.length)]
  rfl
 ·rw [List.getElem?_eq_none h1, List.getElem?_eq_none (by omega : G.length ≤ z.toNat)]
  show (0 : Rat) = 0 + 0
  grind
theorem slopeQ_plus (A B C : PtQ) (a b c a' b' c' : Rat) : slopeQ A B C (a + a') (b + b') (c + c') = ((slopeQ A B C a b c).1 + (slopeQ A B C a' b' c').1, (slopeQ A B C a b c).2 + (slopeQ A B C a' b' c').2) := by
 unfold slopeQ minorQ
 dsimp only
 generalize 1 / ((B.1 - A.1) * (C.2 - A.2) - (B.2 - A.2) * (C.1 - A.1)) = k
 rw [Prod.mk.injEq]
 constructor <;> grind
theorem onQ_sum {P : List PtQ} {F G : List Rat} (h : F.length = G.length) (tr : Tri) (p : PtQ) : onQ P (sumQ F G) tr p = onQ P F tr p + onQ P G tr p := by
 unfold onQ slopeT
 rw [hI_sum h, hI_sum h, hI_sum h, slopeQ_plus]
 generalize slopeQ (ptI P tr.1) (ptI P tr.2.1) (ptI P tr.2.2) (hI F tr.1) (hI F tr.2.1) (hI F tr.2.2) = S
 generalize slopeQ (ptI P tr.1) (ptI P tr.2.1) (ptI P tr.2.2) (hI G tr.1) (hI G tr.2.1) (hI G tr.2.2) = S'
 dsimp only
 grind
def subQ (F G : List Rat) : List Rat := List.zipWith (fun a b => a - b) F G
theorem subQ_length (F G : List Rat) (h : F.length = G.length) : (subQ F G).length = G.length := by unfold subQ; rw [List.length_zipWith]; omega
theorem subQ_get (F G : List Rat) (i : Nat) (h1 : i < F.length) (h2 : i < G.length) : (subQ F G)[i]? = some (F[i] - G[i]) := by
 unfold subQ
 rw [List.getElem?_zipWith]
 simp [h1, h2]
theorem hI_sub {F G : List Rat} (h : F.length = G.length) (z : Int) : hI (subQ F G) z = hI F z - hI G z := by
 unfold hI subQ
 rw [List.getElem?_zipWith]
 rcases Nat.lt_or_ge z.toNat F.length with h1 | h1
 ·rw [List.getElem?_eq_getElem h1, List.getElem?_eq_getElem (by omega : z.toNat < G.length)]
  rfl
 ·rw [List.getElem?_eq_none h1, List.getElem?_eq_none (by omega : G.length ≤ z.toNat)]
  show (0 : Rat) = 0 - 0
  grind
def wholeTo (P : List PtQ) (T : List Tri) (F G : List Rat) : Nat → Rat
 | 0 => 0
 | t + 1 => wholeTo P T F G t + areaQ (ptI P (triI T t).1) (ptI P (triI T t).2.1) (ptI P (triI T t).2.2) * (hI F (triI T t).1 - hI G (triI T t).1) + areaQ (ptI P (triI T t).1) (ptI P (triI T t).2.1) (ptI P (triI T t).2.2) * (hI F (triI T t).2.1 - hI G (triI T t).2.1) + areaQ (ptI P (triI T t).1) (ptI P (triI T t).2.1) (ptI P (triI T t).2.2) * (hI F (triI T t).2.2 - hI G (triI T t).2.2)
theorem excess_dif {P : List PtQ} {T : List Tri} {F G : List Rat} (h : F.length = G.length) : ∀ t, volTo P T (subQ F G) 0 t - volTo P T (subQ G F) 0 t = wholeTo P T F G t * (1 / 6)
 | 0 => by show (0 : Rat) - 0 = 0 * (1 / 6); grind
 | t + 1 => by
   have ih := excess_dif (P := P) (T := T) h t
   have v1 := integ_forms (corP P (subQ F G) (triI T t).1) (corP P (subQ F G) (triI T t).2.1) (corP P (subQ F G) (triI T t).2.2) 0
   have v2 := integ_forms (corP P (subQ G F) (triI T t).1) (corP P (subQ G F) (triI T t).2.1) (corP P (subQ G F) (triI T t).2.2) 0
   show (volTo P T (subQ F G) 0 t + integ (partT P (subQ F G) 0 (triI T t)) 0) - (volTo P T (subQ G F) 0 t + integ (partT P (subQ G F) 0 (triI T t)) 0) = wholeTo P T F G (t + 1) * (1 / 6)
   unfold partT wholeTo
   generalize hV : integ (cutL (corP P (subQ F G) (triI T t).1) (corP P (subQ F G) (triI T t).2.1) (corP P (subQ F G) (triI T t).2.2) 0) 0 = V at *
   generalize hV' : integ (cutL (corP P (subQ G F) (triI T t).1) (corP P (subQ G F) (triI T t).2.1) (corP P (subQ G F) (triI T t).2.2) 0) 0 = V' at *
   unfold corP at v1 v2
   dsimp only at v1 v2
   rw [hI_sub h, hI_sub h, hI_sub h] at v1
   rw [hI_sub h.symm, hI_sub h.symm, hI_sub h.symm] at v2
   generalize areaQ (ptI P (triI T t).1) (ptI P (triI T t).2.1) (ptI P (triI T t).2.2) = A at *
   generalize hI F (triI T t).1 = f0 at *
   generalize hI F (triI T t).2.1 = f1 at *
   generalize hI F (triI T t).2.2 = f2 at *
   generalize hI G (triI T t).1 = g0 at *
   generalize hI G (triI T t).2.1 = g1 at *
   generalize hI G (triI T t).2.2 = g2 at *
   have e0 : g0 - f0 - 0 = -(f0 - g0 - 0) := by grind
   have e1 : g1 - f1 - 0 = -(f1 - g1 - 0) := by grind
   have e2 : g2 - f2 - 0 = -(f2 - g2 - 0) := by grind
   rw [e0, e1, e2] at v2
   have e := vol_dif v1 v2
   grind
theorem combine_sub (w : World) (vf vg : Value) (k : Nat) (F G : List Rat) (hk : 0 < k) (hk2 : k ≤ 20000) (hL : RdQ w vf F) (hU : RdQ w vg G) (hlen : F.length = G.length) (hn : G.length ≤ 1000000) (hsL : ∀ q ∈ F, Sz k q) (hsU : ∀ q ∈ G, Sz k q) (hg : Good w) :
 Calls Tryz.prog 52 #[vf, vg, .func (.func 53) #[] #[]] w (Ret (fun r w' => RdQ w' r (subQ F G) ∧ FreshV w.heap.size r) w) := by
 obtain ⟨pl, cl, rfl, hlc, hlm, hlr⟩ := hL.open
 obtain ⟨pu, cu, rfl, huc, hum, hur⟩ := hU.open
 obtain ⟨n, hn0⟩ : ∃ n, n = G.length := ⟨_, rfl⟩
 have HLR := Lib.hid hlr
 have HUR := Lib.hid hur
 have HL := Lib.hid hsL
 have HU := Lib.hid hsU
 have HN1 : Hid (F.length = n) := by unfold Hid; omega
 have HN2 : Hid (G.length = n) := hn0.symm
 rw [hlen, ← hn0]
 rw [← hn0] at hn huc
 have hlc' : n ≤ cl := by omega
 clear hL hU hlr hur hsL hsU hlen hn0 hlc
 obtain ⟨i0, hi, hz0, hz1, hz2⟩ := info_parts info_str
 go_enter Tryz.func52, Tryz.ntmps52
 go_wp2_with fail
 go_loopw [7, 12] (fun t7 t12 wr => ∃ (i : Nat), t12 = .int .i64 i ∧ i ≤ n ∧ wr.ownsRow w.heap.size 31 1 t7 i (((subQ F G).take i).map fun q => Value.string (RS q)) ∧ Below w.heap.size w wr) (fun _ t12 _ => n - (RowKit.intOf t12).toNat)
 case atStart => exact ⟨0, rfl, Nat.zero_le _, World.ownsRow_nil _ _ _ _, Below.refl _ _⟩
 case round =>
  obtain ⟨i, rfl, hin, hown, hbr⟩ := hrel
  obtain ⟨p3, c3', rfl⟩ := ownsRow_shape hown
  rcases Nat.lt_or_ge i n with h | h
  ·obtain ⟨bl, ol, rfl, hbl, hlc⟩ := HLR.out (by intro e; have := HN1.out; rw [e] at this; simp at this; omega)
   obtain ⟨bu, ou, rfl, hbu, huc⟩ := HUR.out (by intro e; have := HN2.out; rw [e] at this; simp at this; omega)
   have l1 := hlc i (by have := HN1.out; omega)
   have u1 := huc i (by have := HN2.out; omega)
   have hq := subQ_get F G i (by have := HN1.out; omega) (by have := HN2.out; omega)
   have zl := HL.out _ (List.getElem_mem (show i < F.length by have := HN1.out; omega))
   have zu := HU.out _ (List.getElem_mem (show i < G.length by have := HN2.out; omega))
   generalize F[i]'_ = l at *
   generalize G[i]'_ = u at *
   have HTK := Lib.hid (take_snoc _ _ _ hq)
   have HZL := Lib.hid zl
   have HZU := Lib.hid zu
   have xl := zcq hbr hbl l1
   have xu := zcq hbr hbu u1
   have hgr : Good wr := hg.below hbr
   have hiz : (i : Int) < (n : Int) := by omega
   clear hlc huc l1 u1 hq zl zu
   go_wp2_with fail
   refine (ratSub_any l u k hk hk2 HZL.out HZU.out _ hgr).mono ?_
   rintro e w2 ⟨_, rfl, rfl, hb2⟩
   have hown2 := World.ownsRow.belowAll hown hb2
   have hbr2 : Below w.heap.size w w2 := hbr.trans (hb2.mono hbr.size)
   have hzw := hbr.size
   have hz2' : w.heap.size ≤ w2.heap.size := hbr2.size
   clear hb2 hown hbr hgr xl xu
   go_wp2_with (at_builtin; refine wpList_append_own _ rfl _ _ 41 rfl w.heap.size 31 i0 (.string ⟨#[]⟩) 1 16 Tryz.underlying41 hi hz0 hz1 hz2 rfl (by decide) _ _ _ rfl (hown2.alloc _) ⟨w2.heap.size, 0, none⟩ 1 1 [.string (RS (l - u))] rfl rfl (cell_one_str _ _ _) (one_cell_str _) (by unfold maxLen; omega) (by omega) (by simp; omega) ?_
                intro v2 w3 hown3 hgrow3 _
                have hzw3 := hgrow3.size
                have hbr3 : Below w.heap.size w w3 := (hbr2.alloc (by omega) _).grown hgrow3 (by simp; omega) (fun j hj => by have := (hown2.lt j hj).1; omega)
                clear hgrow3)
   go_roundw
   case rel => exact ⟨i + 1, by go_num, by omega, by rw [HTK.out, List.map_append]; exact hown3, hbr3⟩
   case measure =>
    show n - ((i : Int) + 1).toNat < n - (i : Int).toNat
    omega
  ·obtain rfl : i = n := by omega
   have hfr : FreshV w.heap.size (.slice p3 i c3') := FreshV.of_owns hown
   have hrd : RdQ wr (.slice p3 i c3') (subQ F G) := by
    have hl : (subQ F G).length = i := by rw [subQ_length _ _ (by rw [HN1.out, HN2.out]), HN2.out]
    have h1 : RdC 1 wr (.slice p3 i c3') i ((List.take i (subQ F G)).map fun q => Value.string (RS q)) := RdC.of_owns hown
    rw [List.take_of_length_le (by omega)] at h1
    unfold RdQ
    rw [hl]
    exact h1
   go_wp2_with fail
   go_ret
   exact ⟨_, rfl, ⟨hrd, hfr⟩, hbr⟩
theorem subQ_Sz {F G : List Rat} {k : Nat} (hF : ∀ q ∈ F, Sz k q) (hG : ∀ q ∈ G, Sz k q) : ∀ q ∈ subQ F G, Sz (2 * k + 1) q := fun q hq => by
 unfold subQ at hq
 obtain ⟨i, hi, rfl⟩ := List.getElem_of_mem hq
 rw [List.getElem_zipWith]
 rw [List.length_zipWith] at hi
 exact ((hF _ (List.getElem_mem (by omega))).sub (hG _ (List.getElem_mem (by omega)))).mono (by omega)
theorem MeshOK.up {P : List PtQ} {T : List Tri} {k m : Nat} (h : MeshOK P T k) (hkm : k ≤ m) (hm : m ≤ 200) : MeshOK P T m :=
 { kpos := by have := h.kpos; omega, klim := by omega, sz := fun p hp => ⟨(h.sz p hp).1.mono hkm, (h.sz p hp).2.mono hkm⟩, plen := h.plen, tlen := h.tlen, idx := h.idx, klim2 := hm, some := h.some, apart := h.apart, turns := h.turns, whole := h.whole }
theorem volTo_Sz {P : List PtQ} {T : List Tri} {F : List Rat} {z : Rat} {k m c : Nat} (hk : 0 < k) (hs : ∀ tr ∈ T, ∀ x ∈ idxOf tr, SzP k (ptI P x) ∧ Sz k (hI F x)) (hz : Sz m z) (hc : (14 * (6 * k + m + 4) + 14) * 4 + 1 ≤ c) : ∀ t, t ≤ T.length → Sz (t * (c + 1) + 1) (volTo P T F z t)
 | 0, _ => Sz.zero _ (by omega)
 | t + 1, ht => by
   have h0 := volTo_Sz hk hs hz hc t (by omega)
   have hps : ∀ d ∈ partT P F z (triI T t), SzP (6 * k + m + 4) d.1 ∧ Sz (6 * k + m + 4) d.2 := fun d hd => by
    have := partT_Sz2 (hs (triI T t) (by rw [triI_nat T t (by omega)]; exact List.getElem_mem (by omega))) hz d hd
    exact ⟨this.1, this.2.mono (by omega)⟩
   have h1 : Sz c (integ (partT P F z (triI T t)) z) := by
    have := fanI_Sz (l := partT P F z (triI T t)) (z := z) (k := 6 * k + m + 4) (by omega) hps (hz.mono (by omega)) ((partT P F z (triI T t)).length - 2)
    refine this.mono (Nat.le_trans (Nat.add_le_add_right (Nat.mul_le_mul_left _ ?_) 1) hc)
    have := partT_len P F z (triI T t)
    omega
   show Sz _ (volTo P T F z t + integ (partT P F z (triI T t)) z)
   exact (h0.add h1).mono (by rw [Nat.add_mul]; omega)
theorem fexcess_ok (w : World) (vp vt vf vg : Value) (P : List PtQ) (T : List Tri) (k : Nat) (F G : List Rat) (h : FieldIn w vp vt vf P T k F) (h2 : FieldIn w vp vt vg P T k G) (hk : k ≤ 2) (hT : T.length ≤ 8) (hVE : Sz 200 (volTo P T (subQ F G) 0 T.length)) (hg : Good w) :
 Calls Tryz.prog 15 #[.agg #[vp, vt], vf, vg] w (Ret (fun r _ => r = .tuple #[.string (RS (volTo P T (subQ F G) 0 T.length)), .int .i64 0]) w) := by
 have HF := Lib.hid h
 have HG := Lib.hid h2
 have hkp := h.m.kpos
 have hfl := h.fl
 have hgl := h2.fl
 have hpl := h.m.plen
 have hsl : (subQ F G).length = P.length := by rw [subQ_length _ _ (by omega), hgl]
 have HSL := Lib.hid hsl
 have hss := subQ_Sz h.fs h2.fs
 have HFI : Hid (∀ w' v, RdP w' vp (strP P) → RdT w' vt T → RdQ w' v (subQ F G) → FieldIn w' vp vt v P T (2 * k + 1) (subQ F G)) := fun w' v hp ht hv => ⟨hp, ht, h.m.up (by omega) (by omega), hv, hss, hsl⟩
 have hsz : ∀ tr ∈ T, ∀ x ∈ idxOf tr, SzP (2 * k + 1) (ptI P x) ∧ Sz (2 * k + 1) (hI (subQ F G) x) := fun tr htr x hx => by
  obtain ⟨h0, h1⟩ := h.m.idx tr htr x hx
  obtain ⟨q, rfl⟩ : ∃ q : Nat, x = (q : Int) := ⟨x.toNat, by omega⟩
  rw [ptI_nat P q (by omega), hI_nat (subQ F G) q (by omega)]
  exact ⟨⟨(h.m.sz _ (List.getElem_mem _)).1.mono (by omega), (h.m.sz _ (List.getElem_mem _)).2.mono (by omega)⟩, hss _ (List.getElem_mem _)⟩
 have hV : ∀ t, t ≤ T.length → Sz 20000 (volTo P T (subQ F G) 0 t) := fun t ht => (volTo_Sz (k := 2 * k + 1) (m := 1) (c := 2017) (by omega) hsz (Sz.zero _ (by omega)) (by omega) t ht).mono (by
  have : t ≤ 8 := by omega
  rcases (by omega : t = 0 ∨ t = 1 ∨ t = 2 ∨ t = 3 ∨ t = 4 ∨ t = 5 ∨ t = 6 ∨ t = 7 ∨ t = 8) with e | e | e | e | e | e | e | e | e <;> rw [e] <;> omega)
 have HVO : Hid (∀ w' v, FieldIn w' vp vt v P T (2 * k + 1) (subQ F G) → Good w' → _) := fun w' v h hg => fvolume_any w' vp vt v P T (2 * k + 1) (subQ F G) h 0 1 20000 (Sz.zero _ (by omega)) (by omega) (Nat.le_refl _) (by omega) hV hg
 have HNU : Hid (∀ w', Good w' → _) := fun w' hg' => fnumber_ok (volTo P T (subQ F G) 0 T.length) hVE w' hg'
 have HCO : Hid (∀ w', Below w.heap.size w w' → Good w' → _) := fun w' hb hg' => combine_sub w' vf vg k F G hkp (by omega) (HF.out.below hb).f (HG.out.below hb).f (by omega) (by omega) h.fs h2.fs hg'
 have HPT : Hid (∀ w', Below w.heap.size w w' → RdP w' vp (strP P) ∧ RdT w' vt T) := fun w' hb => ⟨RdC.below h.p hb, RdC.below h.t hb⟩
 rw [RS_zero] at HVO
 obtain ⟨pp, cp, pt, ct, pf, cf, rfl, rfl, rfl⟩ := h.open
 obtain ⟨_, _, _, _, pg, cg, -, -, rfl⟩ := h2.open
 generalize volTo P T (subQ F G) 0 T.length = res at *
 clear h h2 hVE hV hsz hss hsl hfl hgl
 go_enter Tryz.func15, Tryz.ntmps15
 go_wp2_with fail
 obtain ⟨W, hW⟩ : ∃ W, W = (w.alloc (.cells #[.slice pp P.length cp, .slice pt T.length ct] 38)).alloc (.cells #[.slice pf F.length cf, .slice pg G.length cg] 41) := ⟨_, rfl⟩
 have hB : Below w.heap.size w W := by rw [hW]; exact zal2 _ _ _
 have b0 : BoxN W w.heap.size 38 [.slice pp P.length cp, .slice pt T.length ct] := by rw [hW]; exact (BoxN.new _ _ _ _ rfl).alloc _
 have b2 : BoxN W (w.heap.size + 1) 41 [.slice pf F.length cf, .slice pg G.length cg] := by rw [hW]; exact BoxN.new _ _ _ _ (by simp)
 rw [← hW]
 clear hW
 refine (checks_two W _ _ _ _ P T k F G (HF.out.below hB) (HG.out.below hB) (w.heap.size + 1) (b2.cell 0 rfl) (b2.cell 1 rfl) (hg.below hB)).mono ?_
 rintro e w1 ⟨_, rfl, rfl, hb1⟩
 have hB1 := hB.trans (hb1.mono hB.size)
 have b1 := b0.below hb1 b0.lt
 clear hb1 b2 hB b0
 have x0 := b1.cell 0 rfl
 have x1 := b1.cell 1 rfl
 have lm := b1.lt
 go_upto_region 4 with fail
 go_cut [6, 7] (fun s6 s7 wx => s6 = .string (RS res) ∧ s7 = .int .i64 0 ∧ Below w1.heap.size w1 wx)
 case first =>
  have hgd : Good w1.drew := (hg.below hB1).drewN 1
  have hBd : Below w.heap.size w w1.drew := hB1.trans ((below_drewN w1 1).mono hB1.size)
  go_region_held3 (fun w' => w'.cell? ⟨w.heap.size, 0, none⟩ = some (.slice pp P.length cp) ∧ w'.cell? ⟨w.heap.size, 1, none⟩ = some (.slice pt T.length ct))
   (first | exact ⟨x0, x1⟩ | exact ⟨p_1_0, p_1_1⟩ | exact ⟨p_2_0, p_2_1⟩ | exact ⟨p_3_0, p_3_1⟩)
   (first
   | (go_at_call 50; refine (HNU.out _ pg2).mono ?_; rintro e pw3 ⟨_, rfl, rfl, pb3⟩
      have p_3_0 := zct pb3 p_2_0
      have p_3_1 := zct pb3 p_2_1
      have ps3 : pw2.heap.size ≤ pw3.heap.size := pb3.size
      have pg3 : Good pw3 := pg2.below pb3)
   | (go_at_call 51; refine (HVO.out _ _ (HFI.out _ _ (HPT.out _ (hBd.trans (pb1.mono hBd.size))).1 (HPT.out _ (hBd.trans (pb1.mono hBd.size))).2 HV.out) pg1).mono ?_; rintro e pw2 ⟨_, rfl, rfl, pb2⟩
      have p_2_0 := zct pb2 p_1_0
      have p_2_1 := zct pb2 p_1_1
      have ps2 : pw1.heap.size ≤ pw2.heap.size := pb2.size
      have pg2 : Good pw2 := pg1.below pb2)
   | (go_at_call 52; refine (HCO.out _ hBd hgd).mono ?_; rintro e pw1 ⟨v, rfl, ⟨hv, -⟩, pb1⟩
      have p_1_0 := zct pb1 x0
      have p_1_1 := zct pb1 x1
      have ps1 : w1.heap.size ≤ pw1.heap.size := pb1.size
      have pg1 : Good pw1 := hgd.below pb1
      have HV := Lib.hid hv))
  have pB : Below w1.heap.size w1 pw3 := zbt (zbt (zbt (below_drewN w1 1) pb1) pb2) pb3
  go_wp2_with fail
  go_meet
  exact ⟨rfl, rfl, pB⟩
 case rest =>
 obtain ⟨rfl, rfl, hbx⟩ := hcut
 go_wp2_with fail
 go_ret2
 exact ⟨_, rfl, rfl, hB1.trans (hbx.mono hB1.size)⟩
theorem cancel_nat {x : Rat} {q : Nat} (hq : 0 < q) (h : x * (q : Rat) = 0) : x = 0 := by
 rcases Rat.mul_eq_zero.1 h with h | h
 ·exact h
 ·have : q = 0 := by exact_mod_cast h
  omega
structure TriI (A x y w : Rat) (a h0 h1 h2 p : Int) (q : Nat) : Prop where
 hq : 0 < q
 hA : A * 4 = (a : Rat)
 hx : x * (2 * (q : Rat)) = (h0 : Rat) * (q : Rat) - 2 * (p : Rat)
 hy : y * (2 * (q : Rat)) = (h1 : Rat) * (q : Rat) - 2 * (p : Rat)
 hw : w * (2 * (q : Rat)) = (h2 : Rat) * (q : Rat) - 2 * (p : Rat)
theorem TriI.turn {A x y w : Rat} {a h0 h1 h2 p : Int} {q : Nat} (h : TriI A x y w a h0 h1 h2 p q) : TriI A y w x a h1 h2 h0 p q := ⟨h.hq, h.hA, h.hy, h.hw, h.hx⟩
section
variable {A x y w V : Rat} {a h0 h1 h2 p : Int} {q : Nat}
theorem TriI.dif (h : TriI A x y w a h0 h1 h2 p q) : (x - y) * 2 = (h0 : Rat) - (h1 : Rat) ∧ (x - w) * 2 = (h0 : Rat) - (h2 : Rat) := by
 have h1' := h.hx
 have h2' := h.hy
 have h3' := h.hw
 constructor
 ·have := cancel_nat (x := (x - y) * 2 - ((h0 : Rat) - (h1 : Rat))) h.hq (by grind)
  grind
 ·have := cancel_nat (x := (x - w) * 2 - ((h0 : Rat) - (h2 : Rat))) h.hq (by grind)
  grind
theorem TriI.cap (h : TriI A x y w a h0 h1 h2 p q) {r s : Rat} (hr : r * (x - y) = x) (hs : s * (x - w) = x) (hV : 6 * V = A * (x * r * s)) :
 V * (48 * (q : Rat) * q * q * (((h0 - h1) * (h0 - h2) : Int) : Rat)) = ((a * ((h0 * q - 2 * p) * (h0 * q - 2 * p) * (h0 * q - 2 * p)) : Int) : Rat) := by
 obtain ⟨d1, d2⟩ := h.dif
 have hx := h.hx
 have hA := h.hA
 have e1 : (((h0 - h1) * (h0 - h2) : Int) : Rat) = ((h0 : Rat) - (h1 : Rat)) * ((h0 : Rat) - (h2 : Rat)) := by rw [Rat.intCast_mul, Rat.intCast_sub, Rat.intCast_sub]
 have e2 : ((a * ((h0 * q - 2 * p) * (h0 * q - 2 * p) * (h0 * q - 2 * p)) : Int) : Rat) = (a : Rat) * (((h0 : Rat) * (q : Rat) - 2 * (p : Rat)) * ((h0 : Rat) * (q : Rat) - 2 * (p : Rat)) * ((h0 : Rat) * (q : Rat) - 2 * (p : Rat))) := by
  rw [Rat.intCast_mul, Rat.intCast_mul, Rat.intCast_mul, Rat.intCast_sub, Rat.intCast_mul, Rat.intCast_mul]; rfl
 rw [e1, e2, ← hx, ← hA, ← d1, ← d2]
 have r1 : r * ((x - y) * 2) = 2 * x := by grind
 have s1 : s * ((x - w) * 2) = 2 * x := by grind
 have g : V * (48 * (q : Rat) * q * q * ((x - y) * 2 * ((x - w) * 2))) = 8 * q * q * q * (6 * V) * ((x - y) * 2) * ((x - w) * 2) := by grind
 rw [g, hV]
 have g2 : 8 * (q : Rat) * q * q * (A * (x * r * s)) * ((x - y) * 2) * ((x - w) * 2) = 8 * q * q * q * A * x * (r * ((x - y) * 2)) * (s * ((x - w) * 2)) := by grind
 rw [g2, r1, s1]
 grind
theorem TriI.whole (h : TriI A x y w a h0 h1 h2 p q) (hV : 6 * V = A * (x + y + w)) :
 V * (48 * (q : Rat)) = ((a * ((h0 + h1 + h2) * q - 6 * p) : Int) : Rat) := by
 have hx := h.hx
 have hy := h.hy
 have hw := h.hw
 have hA := h.hA
 have e2 : ((a * ((h0 + h1 + h2) * q - 6 * p) : Int) : Rat) = (a : Rat) * (((h0 : Rat) + (h1 : Rat) + (h2 : Rat)) * (q : Rat) - 6 * (p : Rat)) := by
  rw [Rat.intCast_mul, Rat.intCast_sub, Rat.intCast_mul, Rat.intCast_mul, Rat.intCast_add, Rat.intCast_add]; rfl
 have g : V * (48 * (q : Rat)) = 8 * q * (6 * V) := by grind
 rw [e2, g, hV, ← hA]
 grind
theorem TriI.not (h : TriI A x y w a h0 h1 h2 p q) {r s : Rat} (hr : r * (x - y) = x) (hs : s * (x - w) = x) (hV : 6 * V = A * (x + y + w) - A * (x * r * s)) :
 V * (48 * (q : Rat) * q * q * (((h0 - h1) * (h0 - h2) : Int) : Rat)) = ((a * ((h0 + h1 + h2) * q - 6 * p) * (q * q * ((h0 - h1) * (h0 - h2))) - a * ((h0 * q - 2 * p) * (h0 * q - 2 * p) * (h0 * q - 2 * p)) : Int) : Rat) := by
 have c1 := h.cap (V := A * (x * r * s) / 6) hr hs (by grind)
 have c2 := h.whole (V := A * (x + y + w) / 6) (by grind)
 have e : V = A * (x + y + w) / 6 - A * (x * r * s) / 6 := by grind
 generalize a * ((h0 + h1 + h2) * q - 6 * p) = X at *
 generalize (h0 - h1) * (h0 - h2) = D at *
 rw [Rat.intCast_sub, ← c1, Rat.intCast_mul, ← c2, Rat.intCast_mul, Rat.intCast_mul, e]
 have e3 : (((q : Nat) : Int) : Rat) = (q : Rat) := rfl
 rw [e3]
 generalize A * (x + y + w) / 6 = V1
 generalize A * (x * r * s) / 6 = V2
 grind
end
theorem natAbs3 (a b c : Int) {A B C : Nat} (h1 : a.natAbs ≤ A) (h2 : b.natAbs ≤ B) (h3 : c.natAbs ≤ C) : (a * b * c).natAbs ≤ A * B * C := by
 rw [Int.natAbs_mul, Int.natAbs_mul]
 exact Nat.mul_le_mul (Nat.mul_le_mul h1 h2) h3
end Go.Proofs.YtegiemcnfbchoaaGreatDoor
namespace Go.Proofs.YtegiemcnfbchoaaGreatDoor
open Go.RowKit Go.Lib
theorem int_pos_of_rat {n : Int} (h : (0 : Rat) < (n : Rat)) : 0 < n := by
 have : ((0 : Int) : Rat) < (n : Rat) := h
 exact Rat.intCast_lt_intCast.1 this
theorem int_neg_of_rat {n : Int} (h : (n : Rat) < 0) : n < 0 := by
 have : (n : Rat) < ((0 : Int) : Rat) := h
 exact Rat.intCast_lt_intCast.1 this
section
variable {A x y w V : Rat} {a h0 h1 h2 p : Int} {q : Nat}
theorem TriI.dpos (h : TriI A x y w a h0 h1 h2 p q) (hs : (y < x ∧ w < x) ∨ (x < y ∧ x < w)) : 0 < (h0 - h1) * (h0 - h2) := by
 obtain ⟨d1, d2⟩ := h.dif
 have e1 : ((h0 - h1 : Int) : Rat) = (x - y) * 2 := by rw [Rat.intCast_sub, d1]
 have e2 : ((h0 - h2 : Int) : Rat) = (x - w) * 2 := by rw [Rat.intCast_sub, d2]
 rcases hs with ⟨s1, s2⟩ | ⟨s1, s2⟩
 ·exact Int.mul_pos (int_pos_of_rat (by rw [e1]; grind)) (int_pos_of_rat (by rw [e2]; grind))
 ·exact Int.mul_pos_of_neg_of_neg (int_neg_of_rat (by rw [e1]; grind)) (int_neg_of_rat (by rw [e2]; grind))
def NumP (V : Rat) (q : Nat) : Prop := ∃ D N : Int, 0 < D ∧ D.natAbs ≤ 23104 ∧ N.natAbs ≤ 1000000000000 * (q * q * q) ∧ V * (48 * (q : Rat) * q * q * (D : Rat)) = (N : Rat)
theorem num_bounds (ha : a.natAbs ≤ 5408) (b0 : h0.natAbs ≤ 76) (b1 : h1.natAbs ≤ 76) (b2 : h2.natAbs ≤ 76) (bp : p.natAbs ≤ 76 * q) :
 (a * ((h0 * q - 2 * p) * (h0 * q - 2 * p) * (h0 * q - 2 * p))).natAbs ≤ 100000000000 * (q * q * q) ∧ (a * ((h0 + h1 + h2) * q - 6 * p) * (q * q * ((h0 - h1) * (h0 - h2)))).natAbs ≤ 100000000000 * (q * q * q) ∧ (a * ((h0 + h1 + h2) * q - 6 * p) * (q * q)).natAbs ≤ 100000000000 * (q * q * q) ∧ ((h0 - h1) * (h0 - h2)).natAbs ≤ 23104 := by
 have u0 : (h0 * q - 2 * p).natAbs ≤ 228 * q := by
  have := Int.natAbs_sub_le (h0 * q) (2 * p)
  rw [Int.natAbs_mul, Int.natAbs_mul] at this
  have h3 : h0.natAbs * ((q : Int).natAbs) ≤ 76 * q := Nat.mul_le_mul b0 (by omega)
  have h4 : (2 : Int).natAbs = 2 := rfl
  rw [h4] at this
  omega
 have us : ((h0 + h1 + h2) * q - 6 * p).natAbs ≤ 684 * q := by
  have := Int.natAbs_sub_le ((h0 + h1 + h2) * q) (6 * p)
  rw [Int.natAbs_mul, Int.natAbs_mul] at this
  have h3 : (h0 + h1 + h2).natAbs * ((q : Int).natAbs) ≤ 228 * q := Nat.mul_le_mul (by omega) (by omega)
  have h4 : (6 : Int).natAbs = 6 := rfl
  rw [h4] at this
  omega
 have d1 : (h0 - h1).natAbs ≤ 152 := by omega
 have d2 : (h0 - h2).natAbs ≤ 152 := by omega
 have dd : ((h0 - h1) * (h0 - h2)).natAbs ≤ 152 * 152 := by rw [Int.natAbs_mul]; exact Nat.mul_le_mul d1 d2
 have qq : ((q : Int) * q).natAbs = q * q := by rw [Int.natAbs_mul]; rfl
 refine ⟨?_, ?_, ?_, by omega⟩
 ·rw [Int.natAbs_mul]
  refine Nat.le_trans (Nat.mul_le_mul ha (natAbs3 _ _ _ u0 u0 u0)) ?_
  have : 5408 * (228 * q * (228 * q) * (228 * q)) = (5408 * 228 * 228 * 228) * (q * q * q) := by grind
  rw [this]
  exact Nat.mul_le_mul_right _ (by decide)
 ·refine Nat.le_trans (natAbs3 _ _ _ ha us (C := q * q * (152 * 152)) ?_) ?_
  ·rw [Int.natAbs_mul, qq]; exact Nat.mul_le_mul_left _ dd
  ·have : 5408 * (684 * q) * (q * q * (152 * 152)) = (5408 * 684 * (152 * 152)) * (q * q * q) := by grind
   rw [this]
   exact Nat.mul_le_mul_right _ (by decide)
 ·refine Nat.le_trans (natAbs3 _ _ _ ha us (C := q * q) (by rw [qq]; exact Nat.le_refl _)) ?_
  have : 5408 * (684 * q) * (q * q) = (5408 * 684) * (q * q * q) := by grind
  rw [this]
  exact Nat.mul_le_mul_right _ (by decide)
theorem TriI.capnot (h : TriI A x y w a h0 h1 h2 p q) (hv : CapP A x y w V ∨ NotP A x y w V) (ha : a.natAbs ≤ 5408) (b0 : h0.natAbs ≤ 76) (b1 : h1.natAbs ≤ 76) (b2 : h2.natAbs ≤ 76) (bp : p.natAbs ≤ 76 * q) : NumP V q := by
 obtain ⟨n1, n2, -, n4⟩ := num_bounds (q := q) ha b0 b1 b2 bp
 rcases hv with ⟨-, g1, g2, g3, r, s, hr, hs, hV⟩ | ⟨-, g1, g2, g3, r, s, hr, hs, hV⟩
 ·exact ⟨_, _, h.dpos (.inl ⟨by grind, by grind⟩), n4, by omega, h.cap hr hs hV⟩
 ·refine ⟨_, _, h.dpos (.inr ⟨by grind, by grind⟩), n4, ?_, h.not hr hs hV⟩
  refine Nat.le_trans (Int.natAbs_sub_le _ _) ?_
  omega
theorem TriI.num (h : TriI A x y w a h0 h1 h2 p q) (hv : VolP A x y w V) (ha : a.natAbs ≤ 5408) (b0 : h0.natAbs ≤ 76) (b1 : h1.natAbs ≤ 76) (b2 : h2.natAbs ≤ 76) (bp : p.natAbs ≤ 76 * q) : NumP V q := by
 rcases hv with ⟨-, -, -, rfl⟩ | ⟨-, -, -, hV⟩ | hv | hv | hv
 ·exact ⟨1, 0, by decide, by decide, by simp, by grind⟩
 ·obtain ⟨-, -, n3, -⟩ := num_bounds (q := q) ha b0 b1 b2 bp
  refine ⟨1, _, by decide, by decide, Nat.le_trans n3 (by omega), ?_⟩
  have c := h.whole hV
  rw [Rat.intCast_mul, ← c, Rat.intCast_mul]
  have e3 : (((q : Nat) : Int) : Rat) = (q : Rat) := rfl
  have e4 : ((1 : Int) : Rat) = 1 := rfl
  rw [e3, e4]
  grind
 ·exact h.capnot hv ha b0 b1 b2 bp
 ·exact h.turn.capnot hv ha b1 b2 b0 bp
 ·exact h.turn.turn.capnot hv ha b2 b0 b1 bp
def FarP (V : Rat) (p : Int) (q : Nat) : Prop := ∃ N : Int, N.natAbs ≤ 5408 * (228 * q + 6 * p.natAbs) ∧ V * (48 * (q : Rat)) = (N : Rat)
theorem TriI.far (h : TriI A x y w a h0 h1 h2 p q) (hv : VolP A x y w V) (ha : a.natAbs ≤ 5408) (b0 : h0.natAbs ≤ 76) (b1 : h1.natAbs ≤ 76) (b2 : h2.natAbs ≤ 76) (hs : (x < 0 ∧ y < 0 ∧ w < 0) ∨ (0 < x ∧ 0 < y ∧ 0 < w)) : FarP V p q := by
 rcases hv with ⟨-, -, -, rfl⟩ | ⟨-, -, -, hV⟩ | hv | hv | hv
 ·exact ⟨0, by simp, by grind⟩
 ·refine ⟨_, ?_, h.whole hV⟩
  rw [Int.natAbs_mul]
  refine Nat.mul_le_mul ha ?_
  have := Int.natAbs_sub_le ((h0 + h1 + h2) * q) (6 * p)
  rw [Int.natAbs_mul, Int.natAbs_mul] at this
  have h3 : (h0 + h1 + h2).natAbs * ((q : Int).natAbs) ≤ 228 * q := Nat.mul_le_mul (by omega) (by omega)
  have h4 : (6 : Int).natAbs = 6 := rfl
  rw [h4] at this
  omega
 ·exfalso
  rcases hv with ⟨g0, g1, g2, g3, -⟩ | ⟨g0, g1, g2, g3, -⟩ <;> grind
 ·exfalso
  rcases hv with ⟨g0, g1, g2, g3, -⟩ | ⟨g0, g1, g2, g3, -⟩ <;> grind
 ·exfalso
  rcases hv with ⟨g0, g1, g2, g3, -⟩ | ⟨g0, g1, g2, g3, -⟩ <;> grind
end
theorem volTo_num {P : List PtQ} {T : List Tri} {F : List Rat} {z : Rat} {q : Nat} (h : ∀ t, t < T.length → NumP (integ (partT P F z (triI T t)) z) q) : ∀ t, t ≤ T.length → ∃ D N : Int, 0 < D ∧ D.natAbs ≤ 23104 ^ t ∧ N.natAbs ≤ t * (1000000000000 * (q * q * q)) * 23104 ^ t ∧ volTo P T F z t * (48 * (q : Rat) * q * q * (D : Rat)) = (N : Rat)
 | 0, _ => ⟨1, 0, by decide, by decide, by simp, by show (0 : Rat) * _ = _; grind⟩
 | t + 1, ht => by
   obtain ⟨D, N, d0, d1, n1, e1⟩ := volTo_num h t (by omega)
   obtain ⟨D', N', d0', d1', n1', e1'⟩ := h t (by omega)
   refine ⟨D * D', N * D' + N' * D, Int.mul_pos d0 d0', ?_, ?_, ?_⟩
   ·rw [Int.natAbs_mul, Nat.pow_succ]; exact Nat.mul_le_mul d1 d1'
   ·refine Nat.le_trans (Int.natAbs_add_le _ _) ?_
    rw [Int.natAbs_mul, Int.natAbs_mul, Nat.pow_succ]
    have a1 := Nat.mul_le_mul n1 d1'
    have a2 := Nat.mul_le_mul n1' d1
    generalize 1000000000000 * (q * q * q) = K at *
    generalize 23104 ^ t = E at *
    have e : (t + 1) * K * (E * 23104) = t * K * E * 23104 + K * E * 23104 := by grind
    rw [e]
    have a3 : K * E ≤ K * E * 23104 := Nat.le_mul_of_pos_right _ (by decide)
    omega
   ·show (volTo P T F z t + integ (partT P F z (triI T t)) z) * _ = _
    rw [Rat.intCast_add, Rat.intCast_mul, Rat.intCast_mul, Rat.intCast_mul, ← e1, ← e1']
    grind
theorem volTo_far {P : List PtQ} {T : List Tri} {F : List Rat} {z : Rat} {p : Int} {q : Nat} (h : ∀ t, t < T.length → FarP (integ (partT P F z (triI T t)) z) p q) : ∀ t, t ≤ T.length → ∃ N : Int, N.natAbs ≤ t * (5408 * (228 * q + 6 * p.natAbs)) ∧ volTo P T F z t * (48 * (q : Rat)) = (N : Rat)
 | 0, _ => ⟨0, by simp, by show (0 : Rat) * _ = _; grind⟩
 | t + 1, ht => by
   obtain ⟨N, n1, e1⟩ := volTo_far h t (by omega)
   obtain ⟨N', n1', e1'⟩ := h t (by omega)
   refine ⟨N + N', ?_, ?_⟩
   ·refine Nat.le_trans (Int.natAbs_add_le _ _) ?_
    rw [Nat.succ_mul]
    omega
   ·show (volTo P T F z t + integ (partT P F z (triI T t)) z) * _ = _
    rw [Rat.intCast_add, ← e1, ← e1']
    grind
end Go.Proofs.YtegiemcnfbchoaaGreatDoor
namespace Go.Proofs.YtegiemcnfbchoaaGreatDoor
open Go.RowKit Go.Lib
def Fr (d B : Nat) (q : Rat) : Prop := ∃ n : Int, q * (d : Rat) = (n : Rat) ∧ n.natAbs ≤ B
theorem Fr.zero (d B : Nat) : Fr d B 0 := ⟨0, by grind, by simp⟩
theorem Fr.mono {d B C : Nat} {q : Rat} (h : Fr d B q) (hBC : B ≤ C) : Fr d C q := by
 obtain ⟨n, h1, h2⟩ := h
 exact ⟨n, h1, Nat.le_trans h2 hBC⟩
theorem Fr.add {d A B : Nat} {p q : Rat} (hp : Fr d A p) (hq : Fr d B q) : Fr d (A + B) (p + q) := by
 obtain ⟨m, h1, h2⟩ := hp
 obtain ⟨n, h3, h4⟩ := hq
 exact ⟨m + n, by rw [Rat.intCast_add]; grind, by omega⟩
theorem Fr.sub {d A B : Nat} {p q : Rat} (hp : Fr d A p) (hq : Fr d B q) : Fr d (A + B) (p - q) := by
 obtain ⟨m, h1, h2⟩ := hp
 obtain ⟨n, h3, h4⟩ := hq
 exact ⟨m - n, by rw [Rat.intCast_sub]; grind, by omega⟩
theorem Fr.mul {d e A B : Nat} {p q : Rat} (hp : Fr d A p) (hq : Fr e B q) : Fr (d * e) (A * B) (p * q) := by
 obtain ⟨m, h1, h2⟩ := hp
 obtain ⟨n, h3, h4⟩ := hq
 refine ⟨m * n, ?_, ?_⟩
 ·rw [Rat.intCast_mul, Rat.natCast_mul, ← h1, ← h3]
  grind
 ·rw [Int.natAbs_mul]
  exact Nat.mul_le_mul h2 h4
theorem sz_of_div {m n : Int} {k : Nat} (hn : n ≠ 0) (hm : m.natAbs < 10 ^ k) (hn2 : n.natAbs < 10 ^ k) {q : Rat} (h : q * (n : Rat) = (m : Rat)) : Sz k q := by
 have hn' : (n : Rat) ≠ 0 := by simpa using hn
 have e : q = mkRat (if 0 < n then m else -m) n.natAbs := by
  rw [Rat.mkRat_eq_div]
  rcases Int.lt_or_lt_of_ne hn with h0 | h0
  ·rw [if_neg (by omega)]
   have : ((n.natAbs : Nat) : Rat) = -(n : Rat) := by
    have h1 : ((n.natAbs : Nat) : Int) = -n := by omega
    have : (((n.natAbs : Nat) : Int) : Rat) = ((-n : Int) : Rat) := by rw [h1]
    rw [Rat.intCast_neg] at this
    exact this
   rw [this, Rat.intCast_neg, ← h]
   grind
  ·rw [if_pos h0]
   have : ((n.natAbs : Nat) : Rat) = (n : Rat) := by
    have h1 : ((n.natAbs : Nat) : Int) = n := by omega
    have : (((n.natAbs : Nat) : Int) : Rat) = ((n : Int) : Rat) := by rw [h1]
    exact this
   rw [this, ← h]
   grind
 rw [e]
 exact Sz.mkRat (by omega) (by split <;> omega) hn2
theorem fr_mkRat (n : Int) (d e B : Nat) (hd : d ≠ 0) (he : d ∣ e) (hB : n.natAbs * (e / d) ≤ B) : Fr e B (mkRat n d) := by
 obtain ⟨c, rfl⟩ := he
 have h0 : (d : Rat) ≠ 0 := by simpa using hd
 rw [Nat.mul_div_cancel_left c (by omega)] at hB
 refine ⟨n * c, ?_, by rw [Int.natAbs_mul]; simpa using hB⟩
 rw [Rat.mkRat_eq_div, Rat.natCast_mul, Rat.intCast_mul]
 have : ((c : Int) : Rat) = (c : Rat) := rfl
 rw [this]
 grind
theorem fr_place (s : Int) (half : Bool) (x : Int) (hx : 0 ≤ x ∧ x ≤ 6) : Fr 2 26 (placeQ s half x) := by
 have := tmod8_bound s
 unfold placeQ
 cases half
 ·exact fr_mkRat _ 1 2 26 (by decide) (by decide) (by show (x + s.tmod 8).natAbs * 2 ≤ 26; omega)
 ·exact fr_mkRat _ 2 2 26 (by decide) (by decide) (by show (x + s.tmod 8).natAbs * 1 ≤ 26; omega)
theorem fr_height (hs : List Int) (half : Bool) (n : Nat) : ∀ q ∈ heightsF hs half n, Fr 2 38 q := fun q hq => by
 obtain ⟨i, _, rfl⟩ := List.mem_map.1 hq
 unfold heightQ
 have := tmod20_bound (hs[i % 6]?.getD 0)
 cases half
 ·exact fr_mkRat _ 1 2 38 (by decide) (by decide) (by show ((hs[i % 6]?.getD 0).tmod 20).natAbs * 2 ≤ 38; omega)
 ·exact fr_mkRat _ 2 2 38 (by decide) (by decide) (by show ((hs[i % 6]?.getD 0).tmod 20).natAbs * 1 ≤ 38; omega)
def FrP (d B : Nat) (p : PtQ) : Prop := Fr d B p.1 ∧ Fr d B p.2
theorem fr_sheet (k : Nat) (s0 s1 : Int) (half : Bool) : ∀ p ∈ sheetP k s0 s1 half, FrP 2 26 p := fun p hp => by
 obtain ⟨q, hq, rfl⟩ := List.mem_map.1 hp
 have := shapeP_small k q hq
 exact ⟨fr_place _ _ _ this.1, fr_place _ _ _ this.2⟩
theorem fr_area {P : List PtQ} {T : List Tri} (hp : ∀ p ∈ P, FrP 2 26 p) (hidx : ∀ t ∈ T, ∀ x ∈ idxOf t, 0 ≤ x ∧ x < (P.length : Int)) {tr : Tri} (htr : tr ∈ T) : Fr 4 5408 (areaT P tr) := by
 have key : ∀ z ∈ idxOf tr, FrP 2 26 (ptI P z) := fun z hz => by
  obtain ⟨h0, h1⟩ := hidx tr htr z hz
  obtain ⟨q, rfl⟩ : ∃ q : Nat, z = (q : Int) := ⟨z.toNat, by omega⟩
  rw [ptI_nat P q (by omega)]
  exact hp _ (List.getElem_mem _)
 have h0 := key tr.1 (by simp [idxOf])
 have h1 := key tr.2.1 (by simp [idxOf])
 have h2 := key tr.2.2 (by simp [idxOf])
 unfold areaT areaQ
 exact (((h1.1.sub h0.1).mul (h2.2.sub h0.2)).sub ((h1.2.sub h0.2).mul (h2.1.sub h0.1))).mono (by decide)
theorem fr_hI {d B : Nat} {F : List Rat} (h : ∀ q ∈ F, Fr d B q) (z : Int) : Fr d B (hI F z) := by
 unfold hI
 cases e : F[z.toNat]? with
 | none => exact Fr.zero d B
 | some q => exact h q (List.mem_of_getElem? e)
theorem sz_of_whole {V : Rat} {e n : Int} {k : Nat} (he : 0 < e) (hek : e.natAbs < 10 ^ k) (hn : n.natAbs < 10 ^ k) (h : V * (e : Rat) = (n : Rat)) : Sz k V :=
 sz_of_div2 (n := e) (m := n) (by omega) hn hek h
theorem vol_Sz {P : List PtQ} {T : List Tri} {F : List Rat} {z : Rat} (hp : ∀ p ∈ P, FrP 2 26 p) (hidx : ∀ t ∈ T, ∀ x ∈ idxOf t, 0 ≤ x ∧ x < (P.length : Int)) (hF : ∀ f ∈ F, Fr 2 76 f) (hT : T.length ≤ 8) (hz : Sz 40 z) : Sz 200 (volTo P T F z T.length) := by
 have hq : 0 < z.den := Nat.pos_of_ne_zero z.den_nz
 have hzq : z * (z.den : Rat) = (z.num : Rat) := (num_den z).symm
 have key : ∀ t, t < T.length → ∃ (A x y w : Rat) (a h0 h1 h2 : Int), TriI A x y w a h0 h1 h2 z.num z.den ∧ VolP A x y w (integ (partT P F z (triI T t)) z) ∧ a.natAbs ≤ 5408 ∧ h0.natAbs ≤ 76 ∧ h1.natAbs ≤ 76 ∧ h2.natAbs ≤ 76 ∧ x * 2 = (h0 : Rat) - 2 * z ∧ y * 2 = (h1 : Rat) - 2 * z ∧ w * 2 = (h2 : Rat) - 2 * z := fun t ht => by
  have htr : triI T (t : Int) = T[t] := triI_nat T t ht
  have hmem : T[t] ∈ T := List.getElem_mem ht
  obtain ⟨a, ea, ba⟩ := fr_area hp hidx hmem
  obtain ⟨h0, e0, b0⟩ := fr_hI hF T[t].1
  obtain ⟨h1, e1, b1⟩ := fr_hI hF T[t].2.1
  obtain ⟨h2, e2, b2⟩ := fr_hI hF T[t].2.2
  have hv := integ_forms (corP P F T[t].1) (corP P F T[t].2.1) (corP P F T[t].2.2) z
  have n2 : ((2 : Nat) : Rat) = 2 := rfl
  have n4 : ((4 : Nat) : Rat) = 4 := rfl
  rw [n4] at ea
  rw [n2] at e0 e1 e2
  refine ⟨areaT P T[t], hI F T[t].1 - z, hI F T[t].2.1 - z, hI F T[t].2.2 - z, a, h0, h1, h2, ⟨hq, ea, ?_, ?_, ?_⟩, ?_, ba, b0, b1, b2, by grind, by grind, by grind⟩
  ·grind
  ·grind
  ·grind
  ·rw [htr]; exact hv
 have hzn := hz.1
 have hzd := hz.2
 rcases Nat.lt_or_ge (76 * z.den) z.num.natAbs with hfar | hnear
 ·have hs : (38 : Rat) < z ∨ z < -38 := by
   have hqr : (0 : Rat) < (z.den : Rat) := by exact_mod_cast hq
   by_cases h : (38 : Rat) < z
   ·exact .inl h
   ·refine .inr (Rat.not_le.1 fun h2 => ?_)
    have u1 : z * (z.den : Rat) ≤ 38 * (z.den : Rat) := Rat.mul_le_mul_of_nonneg_right (Rat.not_lt.1 h) (Rat.le_of_lt hqr)
    have u2 : -38 * (z.den : Rat) ≤ z * (z.den : Rat) := Rat.mul_le_mul_of_nonneg_right h2 (Rat.le_of_lt hqr)
    rw [hzq] at u1 u2
    have c1 : (z.num : Rat) ≤ ((38 * (z.den : Int) : Int) : Rat) := by rw [Rat.intCast_mul]; exact u1
    have c2 : ((-38 * (z.den : Int) : Int) : Rat) ≤ (z.num : Rat) := by rw [Rat.intCast_mul]; exact u2
    have d1 := Rat.intCast_le_intCast.1 c1
    have d2 := Rat.intCast_le_intCast.1 c2
    omega
  have hb : ∀ h : Int, h.natAbs ≤ 76 → (-76 : Rat) ≤ (h : Rat) ∧ (h : Rat) ≤ 76 := fun h hh => by
   have c1 : ((-76 : Int) : Rat) ≤ (h : Rat) := Rat.intCast_le_intCast.2 (by omega)
   have c2 : (h : Rat) ≤ ((76 : Int) : Rat) := Rat.intCast_le_intCast.2 (by omega)
   exact ⟨c1, c2⟩
  obtain ⟨N, n1, e1⟩ := volTo_far (P := P) (T := T) (F := F) (z := z) (p := z.num) (q := z.den) (fun t ht => by
   obtain ⟨A, x, y, w, a, h0, h1, h2, hi, hv, ba, b0, b1, b2, ex, ey, ew⟩ := key t ht
   refine hi.far hv ba b0 b1 b2 ?_
   have g0 := hb h0 b0
   have g1 := hb h1 b1
   have g2 := hb h2 b2
   rcases hs with hs | hs
   ·exact .inl ⟨by grind, by grind, by grind⟩
   ·exact .inr ⟨by grind, by grind, by grind⟩) T.length (Nat.le_refl _)
  refine sz_of_whole (e := 48 * (z.den : Int)) (n := N) (by omega) ?_ ?_ ?_
  ·have : (48 * (z.den : Int)).natAbs = 48 * z.den := by omega
   rw [this]
   exact Nat.lt_of_lt_of_le (Nat.mul_lt_mul_of_pos_left hzd (by decide)) (by decide)
  ·refine Nat.lt_of_le_of_lt n1 ?_
   have : T.length * (5408 * (228 * z.den + 6 * z.num.natAbs)) ≤ 8 * (5408 * (228 * 10 ^ 40 + 6 * 10 ^ 40)) := Nat.mul_le_mul hT (Nat.mul_le_mul_left _ (by omega))
   exact Nat.lt_of_le_of_lt this (by decide)
  ·rw [Rat.intCast_mul]; exact e1
 ·obtain ⟨D, N, d0, d1, n1, e1⟩ := volTo_num (P := P) (T := T) (F := F) (z := z) (q := z.den) (fun t ht => by
   obtain ⟨A, x, y, w, a, h0, h1, h2, hi, hv, ba, b0, b1, b2, -⟩ := key t ht
   exact hi.num hv ba b0 b1 b2 hnear) T.length (Nat.le_refl _)
  have hDp : 23104 ^ T.length ≤ 23104 ^ 8 := Nat.pow_le_pow_right (by decide) hT
  have hqq : z.den * z.den * z.den ≤ 10 ^ 40 * 10 ^ 40 * 10 ^ 40 := Nat.mul_le_mul (Nat.mul_le_mul (Nat.le_of_lt hzd) (Nat.le_of_lt hzd)) (Nat.le_of_lt hzd)
  have hqz : (0 : Int) < (z.den : Int) := by omega
  refine sz_of_whole (e := 48 * (z.den : Int) * z.den * z.den * D) (n := N) (Int.mul_pos (Int.mul_pos (Int.mul_pos (by omega) hqz) hqz) d0) ?_ ?_ ?_
  ·have e : (48 * (z.den : Int) * z.den * z.den * D).natAbs = 48 * (z.den * z.den * z.den) * D.natAbs := by
    rw [Int.natAbs_mul, Int.natAbs_mul, Int.natAbs_mul, Int.natAbs_mul]
    have : ((z.den : Nat) : Int).natAbs = z.den := rfl
    rw [this]
    have : (48 : Int).natAbs = 48 := rfl
    rw [this]
    grind
   rw [e]
   exact Nat.lt_of_le_of_lt (Nat.mul_le_mul (Nat.mul_le_mul_left 48 hqq) (Nat.le_trans d1 hDp)) (by decide)
  ·exact Nat.lt_of_le_of_lt (Nat.le_trans n1 (Nat.mul_le_mul (Nat.mul_le_mul hT (Nat.mul_le_mul_left _ hqq)) hDp)) (by decide)
  ·rw [Rat.intCast_mul, Rat.intCast_mul, Rat.intCast_mul, Rat.intCast_mul]; exact e1
end Go.Proofs.YtegiemcnfbchoaaGreatDoor
