/- Field: Check, slope, Slope. -/
import Derived.Test.YtccngnjkehibiaaGreatDoorG5
import Derived.LoopN
import Derived.StillTailTactics
/- The walks over field.checks, Check, over a right mesh. -/
namespace Go.Proofs.YtccngnjkehibiaaGreatDoor
open Go.RowKit Go.Lib

/-- The error of a field over n points. -/
def errF (n : Nat) (l : List ByteArray) : Int := if l.length = n then errNum (allQ l) else 5
theorem errF_size {n : Nat} {l : List ByteArray} (h : l.length ≠ n) : errF n l = 5 := by unfold errF; rw [if_neg h]
theorem errF_num {n : Nat} {l : List ByteArray} (h : l.length = n) : errF n l = errNum (allQ l) := by unfold errF; rw [if_pos h]

theorem cell_slot (w : World) (v : Value) (ty n : Nat) (hn : w.heap.size = n) : (w.alloc (.cells #[v] ty)).cell? ⟨n, 0, none⟩ = some v := by
  rw [World.cell?_alloc_at _ _ _ _ (by simp [hn])]; rfl

end Go.Proofs.YtccngnjkehibiaaGreatDoor

/- The walks over field.corners and field.slope. -/
namespace Go.Proofs.YtccngnjkehibiaaGreatDoor
open Go.RowKit Go.Lib

/-- A place, a height by its index. -/
def ptI (P : List PtQ) (z : Int) : PtQ := P[z.toNat]?.getD (0, 0)
def hI (F : List Rat) (z : Int) : Rat := F[z.toNat]?.getD 0
theorem ptI_nat (P : List PtQ) (m : Nat) (h : m < P.length) : ptI P (m : Int) = P[m] := by
  unfold ptI; rw [Int.toNat_natCast, List.getElem?_eq_getElem h]; rfl
theorem hI_nat (F : List Rat) (m : Nat) (h : m < F.length) : hI F (m : Int) = F[m] := by
  unfold hI; rw [Int.toNat_natCast, List.getElem?_eq_getElem h]; rfl

/-- Block b of w holds just these cells. -/
def BoxN (w : World) (b t : Nat) (l : List Value) : Prop := w.heap[b]? = some (.cells l.toArray t (0, 0))
theorem BoxN.lt {w : World} {b t : Nat} {l : List Value} (h : BoxN w b t l) : b < w.heap.size := (Array.getElem?_eq_some_iff.1 h).1
theorem BoxN.cell {w : World} {b t : Nat} {l : List Value} (h : BoxN w b t l) (i : Nat) {v : Value} (hv : l[i]? = some v) : w.cell? ⟨b, i, none⟩ = some v := by
  unfold BoxN at h
  simp [World.cell?, h, hv]
theorem BoxN.frozen {w : World} {b t : Nat} {l : List Value} (h : BoxN w b t l) (i : Nat) : w.frozen? ⟨b, i, none⟩ = false := by
  unfold BoxN at h
  simp [World.frozen?, h]
theorem BoxN.new (w : World) (a : Array Value) (t n : Nat) (hn : w.heap.size = n) : BoxN (w.alloc (.cells a t)) n t a.toList := by
  subst hn; exact World.alloc_heap_new _ _
theorem BoxN.below {w w' : World} {m b t : Nat} {l : List Value} (h : BoxN w b t l) (hb : Below m w w') (hm : b < m) : BoxN w' b t l := (hb.block b hm).trans h
theorem BoxN.set {w : World} {b t : Nat} {l : List Value} (h : BoxN w b t l) (i : Nat) (v : Value) : BoxN (w.setCell ⟨b, i, none⟩ v) b t (l.set i v) := by
  obtain ⟨hlt, hk⟩ := Array.getElem?_eq_some_iff.1 (show w.heap[b]? = _ from h)
  show (w.heap.modify b _)[b]? = _
  rw [Array.getElem?_eq_getElem (by rw [Array.size_modify]; exact hlt), Array.getElem_modify_self, hk]
  simp
theorem BoxN.drew {w : World} {b t : Nat} {l : List Value} (h : BoxN w b t l) : BoxN w.drew b t l := h

end Go.Proofs.YtccngnjkehibiaaGreatDoor

/- The walk over field.slope. -/
namespace Go.Proofs.YtccngnjkehibiaaGreatDoor
open Go.RowKit Go.Lib

def minorQ (a b c d : Rat) : Rat := a * d - b * c
/-- The slope of the plane through three corners. -/
def slopeQ (A B C : PtQ) (za zb zc : Rat) : PtQ :=
  (1 / minorQ (B.1 - A.1) (B.2 - A.2) (C.1 - A.1) (C.2 - A.2) * minorQ (zb - za) (B.2 - A.2) (zc - za) (C.2 - A.2),
   1 / minorQ (B.1 - A.1) (B.2 - A.2) (C.1 - A.1) (C.2 - A.2) * minorQ (B.1 - A.1) (zb - za) (C.1 - A.1) (zc - za))
theorem Sz.one : Sz 1 1 := ⟨by decide, by decide⟩

theorem minor_sz {a b c d : Rat} {k : Nat} (ha : Sz k a) (hb : Sz k b) (hc : Sz k c) (hd : Sz k d) : Sz (4 * k + 1) (minorQ a b c d) :=
  ((ha.mul hd).sub (hb.mul hc)).mono (by omega)

end Go.Proofs.YtccngnjkehibiaaGreatDoor

/- The walks over field.Slope, Normal. -/
namespace Go.Proofs.YtccngnjkehibiaaGreatDoor
open Go.RowKit Go.Lib

theorem RdQ.toS {w : World} {v : Value} {F : List Rat} (h : RdQ w v F) : RdS w v (F.map RS) := by
  unfold RdQ at h
  unfold RdS
  rw [List.length_map, List.map_map]
  exact h
theorem errF_ok {n : Nat} {F : List Rat} (hl : F.length = n) (hs : ∀ q ∈ F, Sz 200 q) : errF n (F.map RS) = 0 := by
  rw [errF_num (by rw [List.length_map]; exact hl)]
  have : allQ (F.map RS) = true := by
    unfold allQ
    rw [List.all_map]
    refine List.all_eq_true.2 fun q hq => ?_
    simp only [Function.comp_apply]
    rw [RS_list]
    exact rightQ_RL (hs q hq)
  rw [this]; rfl
theorem size_ok {k : Nat} {F : List Rat} (hk : 0 < k) (hk2 : k ≤ 200) (hs : ∀ q ∈ F, Sz k q) : ∀ s ∈ F.map RS, s.size < 1000000000 := fun s hs' => by
  obtain ⟨q, hq, rfl⟩ := List.mem_map.1 hs'
  have := (hs q hq).size hk
  omega

/-- A right mesh with a right field, in memory. -/
structure FieldIn (w : World) (vp vt vf : Value) (P : List PtQ) (T : List Tri) (k : Nat) (F : List Rat) : Prop where
  p : RdP w vp (strP P)
  t : RdT w vt T
  m : MeshOK P T k
  f : RdQ w vf F
  fs : ∀ q ∈ F, Sz k q
  fl : F.length = P.length
theorem FieldIn.below {w w' : World} {vp vt vf : Value} {P : List PtQ} {T : List Tri} {k : Nat} {F : List Rat} (h : FieldIn w vp vt vf P T k F) (hb : Below w.heap.size w w') : FieldIn w' vp vt vf P T k F :=
  ⟨RdC.below h.p hb, RdC.below h.t hb, h.m, RdC.below h.f hb, h.fs, h.fl⟩
theorem FieldIn.err {w : World} {vp vt vf : Value} {P : List PtQ} {T : List Tri} {k : Nat} {F : List Rat} (h : FieldIn w vp vt vf P T k F) : errF P.length (F.map RS) = 0 :=
  errF_ok h.fl fun q hq => (h.fs q hq).mono h.m.klim2
theorem FieldIn.open {w : World} {vp vt vf : Value} {P : List PtQ} {T : List Tri} {k : Nat} {F : List Rat} (h : FieldIn w vp vt vf P T k F) : ∃ pp cp pt ct pf cf, vp = .slice pp P.length cp ∧ vt = .slice pt T.length ct ∧ vf = .slice pf F.length cf := by
  obtain ⟨pp, cp, e1, _⟩ := h.p.open
  obtain ⟨pt, ct, e2, _⟩ := h.t.open
  obtain ⟨pf, cf, e3, _⟩ := h.f.open
  rw [strP_length] at e1
  exact ⟨pp, cp, pt, ct, pf, cf, e1, e2, e3⟩

/-- The slope on the t-th triangle. -/
def slopeT (P : List PtQ) (F : List Rat) (tr : Tri) : PtQ := slopeQ (ptI P tr.1) (ptI P tr.2.1) (ptI P tr.2.2) (hI F tr.1) (hI F tr.2.1) (hI F tr.2.2)

end Go.Proofs.YtccngnjkehibiaaGreatDoor
