/- Thickness: parallel, Squared, Toward, differences. -/
import Derived.Test.YtccngnjkehibiaaGreatDoorK1
import Derived.Deep.RegionLaw
import Derived.Deep.AppendLies
/- The walk over thickness.parallel of equal slopes. -/
namespace Go.Proofs.YtccngnjkehibiaaGreatDoor
open Go.RowKit Go.Lib

/-- Where the numbers of a triangle and of a field's heights lie. -/
theorem FieldIn.tri {w : World} {vp vt vf : Value} {P : List PtQ} {T : List Tri} {k : Nat} {F : List Rat} (h : FieldIn w vp vt vf P T k F) (t : Nat) (htl : t < T.length) : ∃ b off ct, vt = .slice (some ⟨b, off, none⟩) T.length ct ∧ b < w.heap.size ∧
    w.cell? ⟨b, off + t * 3, none⟩ = some (.int .i64 T[t].1) ∧ w.cell? ⟨b, off + t * 3 + 1, none⟩ = some (.int .i64 T[t].2.1) ∧ w.cell? ⟨b, off + t * 3 + 2, none⟩ = some (.int .i64 T[t].2.2) := by
  obtain ⟨pt, ct, rfl, _, _, hr⟩ := h.t.open
  obtain ⟨b, off, rfl, hb, hc⟩ := hr (List.ne_nil_of_length_pos (by omega))
  obtain ⟨e0, e1, e2⟩ := hc t htl
  exact ⟨b, off, ct, rfl, hb, e0, e1, e2⟩
theorem FieldIn.hgt {w : World} {vp vt vf : Value} {P : List PtQ} {T : List Tri} {k : Nat} {F : List Rat} (h : FieldIn w vp vt vf P T k F) (m : Nat) (hm : m < F.length) : ∃ b off cf, vf = .slice (some ⟨b, off, none⟩) F.length cf ∧ b < w.heap.size ∧
    w.cell? ⟨b, off + m, none⟩ = some (.string (RS (hI F (m : Int)))) := by
  obtain ⟨pf, cf, rfl, _, _, hr⟩ := h.f.open
  obtain ⟨b, off, rfl, hb, hc⟩ := hr (by intro e; rw [e] at hm; simp at hm)
  exact ⟨b, off, cf, rfl, hb, by rw [hI_nat F m hm]; exact hc m hm⟩


end Go.Proofs.YtccngnjkehibiaaGreatDoor

/- The walks over rational.Div by 0 and thickness.Squared. -/
namespace Go.Proofs.YtccngnjkehibiaaGreatDoor
open Go.RowKit Go.Lib

theorem ratDiv_zero (p : Rat) (w : World) :
    Calls Tryz.prog 76 #[.string (RS p), .string (RS 0)] w (Ret (fun v _ => v = .tuple #[.string ⟨#[]⟩, .int .i64 17]) w) := by
  have h8 := RS_eq48 0
  rw [decide_eq_true rfl] at h8
  generalize RS 0 = s at *
  go_enter Tryz.func76, Tryz.ntmps76
  go_wp2_with fail
  go_ret2
  exact ⟨_, rfl, rfl, Below.refl _ _⟩

theorem dipQ_nonneg (s : PtQ) : 0 ≤ dipQ s := by
  unfold dipQ
  have hh : ∀ x : Rat, 0 ≤ x * x := fun x => by
    rcases Rat.le_total (a := 0) (b := x) with h | h
    · exact Rat.mul_nonneg h h
    · have := Rat.mul_nonneg (a := -x) (b := -x) (by grind) (by grind)
      grind
  exact Rat.add_nonneg (hh _) (hh _)
/-- The squared true thickness. -/
def sqQ (d : Rat) (s : PtQ) : Rat := (d * d) / (1 + dipQ s)


end Go.Proofs.YtccngnjkehibiaaGreatDoor

/- The walk over thickness.Toward. -/
namespace Go.Proofs.YtccngnjkehibiaaGreatDoor
open Go.RowKit Go.Lib

/-- How fast a direction rises above a slope. -/
def riseQ (s : PtQ) (x y z : Rat) : Rat := z - (s.1 * x + s.2 * y)


end Go.Proofs.YtccngnjkehibiaaGreatDoor

/- The walks over thickness.differences and double. -/
namespace Go.Proofs.YtccngnjkehibiaaGreatDoor
open Go.RowKit Go.Lib

theorem cell_one_str (w : World) (x : ByteArray) (E : Nat) : ∀ (j : Nat) (u : Value), [Value.string x][j]? = some u → (w.alloc (.cells #[.string x] E)).cell? ((⟨w.heap.size, 0, none⟩ : Addr).add j) = some u := cell_one_new _ _ _
theorem one_cell_str (x : ByteArray) : ∀ u ∈ [Value.string x], u.oneCell' = true := by intro u hu; simp at hu; subst hu; rfl
theorem info_str : ((Tryz.prog).info? 22).map (fun i => (i.zero, i.size, i.bytes)) = some (some (.string ⟨#[]⟩), 1, 16) := by kernel_rfl

/-- The vertical thickness at the points. -/
def difQ (L U : List Rat) : List Rat := List.zipWith (fun l u => u - l) L U
theorem difQ_length (L U : List Rat) (h : L.length = U.length) : (difQ L U).length = U.length := by unfold difQ; rw [List.length_zipWith]; omega
theorem difQ_get (L U : List Rat) (i : Nat) (h1 : i < L.length) (h2 : i < U.length) : (difQ L U)[i]? = some (U[i] - L[i]) := by
  unfold difQ
  rw [List.getElem?_zipWith]
  simp [h1, h2]
theorem take_snoc {α : Type} (l : List α) (i : Nat) (x : α) (h : l[i]? = some x) : l.take (i + 1) = l.take i ++ [x] := by
  obtain ⟨hlt, hx⟩ := List.getElem?_eq_some_iff.1 h
  rw [List.take_succ_eq_append_getElem hlt, hx]


end Go.Proofs.YtccngnjkehibiaaGreatDoor
