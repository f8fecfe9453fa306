/- Field: Check, slope, Slope. -/
import Derived.Test.YtdhcliekejiegaaGreatDoorG5
import Derived.LoopN
import Derived.StillTailTactics
/- The walks over field.checks, Check, over a right mesh. -/
namespace Go.Proofs.YtdhcliekejiegaaGreatDoor
open Go.RowKit Go.Lib

end Go.Proofs.YtdhcliekejiegaaGreatDoor

/- The walks over field.corners and field.slope. -/
namespace Go.Proofs.YtdhcliekejiegaaGreatDoor
open Go.RowKit Go.Lib

/-- A place, a height by its index. -/
def ptI (P : List PtQ) (z : Int) : PtQ := P[z.toNat]?.getD (0, 0)
def hI (F : List Rat) (z : Int) : Rat := F[z.toNat]?.getD 0
theorem ptI_nat (P : List PtQ) (m : Nat) (h : m < P.length) : ptI P (m : Int) = P[m] := by
  unfold ptI; rw [Int.toNat_natCast, List.getElem?_eq_getElem h]; rfl
theorem hI_nat (F : List Rat) (m : Nat) (h : m < F.length) : hI F (m : Int) = F[m] := by
  unfold hI; rw [Int.toNat_natCast, List.getElem?_eq_getElem h]; rfl

/-- Block b of w holds just these cells. -/
def BoxN (w : World) (b t : Nat) (l : List Value) : Prop := w.heap[b]? = some (.cells l.toArray t (0, 0))
theorem BoxN.lt {w : World} {b t : Nat} {l : List Value} (h : BoxN w b t l) : b < w.heap.size := (Array.getElem?_eq_some_iff.1 h).1
theorem BoxN.cell {w : World} {b t : Nat} {l : List Value} (h : BoxN w b t l) (i : Nat) {v : Value} (hv : l[i]? = some v) : w.cell? ⟨b, i, none⟩ = some v := by
  unfold BoxN at h
  simp [World.cell?, h, hv]
theorem BoxN.frozen {w : World} {b t : Nat} {l : List Value} (h : BoxN w b t l) (i : Nat) : w.frozen? ⟨b, i, none⟩ = false := by
  unfold BoxN at h
  simp [World.frozen?, h]
theorem BoxN.new (w : World) (a : Array Value) (t n : Nat) (hn : w.heap.size = n) : BoxN (w.alloc (.cells a t)) n t a.toList := by
  subst hn; exact World.alloc_heap_new _ _
theorem BoxN.below {w w' : World} {m b t : Nat} {l : List Value} (h : BoxN w b t l) (hb : Below m w w') (hm : b < m) : BoxN w' b t l := (hb.block b hm).trans h
theorem BoxN.set {w : World} {b t : Nat} {l : List Value} (h : BoxN w b t l) (i : Nat) (v : Value) : BoxN (w.setCell ⟨b, i, none⟩ v) b t (l.set i v) := by
  obtain ⟨hlt, hk⟩ := Array.getElem?_eq_some_iff.1 (show w.heap[b]? = _ from h)
  show (w.heap.modify b _)[b]? = _
  rw [Array.getElem?_eq_getElem (by rw [Array.size_modify]; exact hlt), Array.getElem_modify_self, hk]
  simp
theorem BoxN.drew {w : World} {b t : Nat} {l : List Value} (h : BoxN w b t l) : BoxN w.drew b t l := h

end Go.Proofs.YtdhcliekejiegaaGreatDoor

/- The walk over field.slope. -/
namespace Go.Proofs.YtdhcliekejiegaaGreatDoor
open Go.RowKit Go.Lib

theorem Sz.one : Sz 1 1 := ⟨by decide, by decide⟩

end Go.Proofs.YtdhcliekejiegaaGreatDoor

/- The walks over field.Slope, Normal. -/
namespace Go.Proofs.YtdhcliekejiegaaGreatDoor
open Go.RowKit Go.Lib

/-- A right mesh with a right field, in memory. -/
structure FieldIn (w : World) (vp vt vf : Value) (P : List PtQ) (T : List Tri) (k : Nat) (F : List Rat) : Prop where
  p : RdP w vp (strP P)
  t : RdT w vt T
  m : MeshOK P T k
  f : RdQ w vf F
  fs : ∀ q ∈ F, Sz k q
  fl : F.length = P.length
theorem FieldIn.below {w w' : World} {vp vt vf : Value} {P : List PtQ} {T : List Tri} {k : Nat} {F : List Rat} (h : FieldIn w vp vt vf P T k F) (hb : Below w.heap.size w w') : FieldIn w' vp vt vf P T k F :=
  ⟨RdC.below h.p hb, RdC.below h.t hb, h.m, RdC.below h.f hb, h.fs, h.fl⟩
theorem FieldIn.open {w : World} {vp vt vf : Value} {P : List PtQ} {T : List Tri} {k : Nat} {F : List Rat} (h : FieldIn w vp vt vf P T k F) : ∃ pp cp pt ct pf cf, vp = .slice pp P.length cp ∧ vt = .slice pt T.length ct ∧ vf = .slice pf F.length cf := by
  obtain ⟨pp, cp, e1, _⟩ := h.p.open
  obtain ⟨pt, ct, e2, _⟩ := h.t.open
  obtain ⟨pf, cf, e3, _⟩ := h.f.open
  rw [strP_length] at e1
  exact ⟨pp, cp, pt, ct, pf, cf, e1, e2, e3⟩

end Go.Proofs.YtdhcliekejiegaaGreatDoor
