/- Thickness: Check, Parallel. -/
import Derived.Test.YtdhcliekejiegaaGreatDoorH1
import Derived.RegionTactic
import Derived.ChangeAlike
import Derived.BigRegion
/- The walks over thickness: Check, short, dip, slopes. -/
namespace Go.Proofs.YtdhcliekejiegaaGreatDoor
open Go.RowKit Go.Lib

/-- A right pair in memory. -/
structure PairIn (w : World) (vp vt vl vu : Value) (P : List PtQ) (T : List Tri) (k : Nat) (L U : List Rat) : Prop where
  l : FieldIn w vp vt vl P T k L
  u : FieldIn w vp vt vu P T k U
theorem PairIn.below {w w' : World} {vp vt vl vu : Value} {P : List PtQ} {T : List Tri} {k : Nat} {L U : List Rat} (h : PairIn w vp vt vl vu P T k L U) (hb : Below w.heap.size w w') : PairIn w' vp vt vl vu P T k L U :=
  ⟨h.l.below hb, h.u.below hb⟩
theorem PairIn.open {w : World} {vp vt vl vu : Value} {P : List PtQ} {T : List Tri} {k : Nat} {L U : List Rat} (h : PairIn w vp vt vl vu P T k L U) : ∃ pp cp pt ct pl cl pu cu, vp = .slice pp P.length cp ∧ vt = .slice pt T.length ct ∧ vl = .slice pl L.length cl ∧ vu = .slice pu U.length cu := by
  obtain ⟨pp, cp, pt, ct, pf, cf, e1, e2, e3⟩ := h.l.open
  obtain ⟨_, _, _, _, pg, cg, _, _, e6⟩ := h.u.open
  exact ⟨pp, cp, pt, ct, pf, cf, pg, cg, e1, e2, e3, e6⟩

end Go.Proofs.YtdhcliekejiegaaGreatDoor

/- The walks over thickness.slopes, Parallel, parallel. -/
namespace Go.Proofs.YtdhcliekejiegaaGreatDoor
open Go.RowKit Go.Lib

end Go.Proofs.YtdhcliekejiegaaGreatDoor

/- The walks over thickness.Parallel, parallel. -/
namespace Go.Proofs.YtdhcliekejiegaaGreatDoor
open Go.RowKit Go.Lib

theorem RS_toList_inj {p q : Rat} (h : (RS p).toList = (RS q).toList) : p = q := by
  rw [ba_toList, ba_toList, RS_list, RS_list] at h
  exact RL_inj h

/-- Two places: the tests that tell them apart. -/
theorem two_pts (S1 S2 : PtQ) : (S1 = S2 ∧ (RS S1.1).toList = (RS S2.1).toList ∧ (RS S1.2).toList = (RS S2.2).toList) ∨ (S1 ≠ S2 ∧ ((¬ (RS S1.1).toList = (RS S2.1).toList) ∨ ((RS S1.1).toList = (RS S2.1).toList ∧ ¬ (RS S1.2).toList = (RS S2.2).toList))) := by
  by_cases h1 : S1.1 = S2.1
  · by_cases h2 : S1.2 = S2.2
    · exact .inl ⟨Prod.ext h1 h2, by rw [h1], by rw [h2]⟩
    · exact .inr ⟨fun e => h2 (by rw [e]), .inr ⟨by rw [h1], fun e => h2 (RS_toList_inj e)⟩⟩
  · exact .inr ⟨fun e => h1 (by rw [e]), .inl fun e => h1 (RS_toList_inj e)⟩

end Go.Proofs.YtdhcliekejiegaaGreatDoor
