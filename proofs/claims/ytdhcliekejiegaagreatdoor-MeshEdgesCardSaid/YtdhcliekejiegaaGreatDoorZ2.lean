/- Right sheets; klippelaw38.known; sizes of plans. -/
import Derived.Test.YtdhcliekejiegaaGreatDoorZ1
import Derived.Test.YtdhcliekejiegaaGreatDoorG5
import Derived.Test.YtdhcliekejiegaaGreatDoorK3
import Derived.Deep.RegionHeld3
import Derived.Deep.RegionLaw
import Derived.Deep.DeepCutAuto
/- Plain: the sheets are right meshes. -/
namespace Go.Proofs.YtdhcliekejiegaaGreatDoor
open Go.RowKit Go.Lib

def shapeQ (k : Nat) : List PtQ := (shapeP k).map fun p => ((p.1 : Rat), (p.2 : Rat))

/-- What of a right mesh hangs on its form alone. -/
def formB (P : List PtQ) (T : List Tri) : Bool :=
  !T.isEmpty && (decide P.Nodup && (T.all (fun t => (idxOf t).all fun x => decide (0 ≤ x ∧ x < (P.length : Int))) && (T.all (fun t => decide (0 < turnZ (P[t.1.toNat]?.getD (0, 0)) (P[t.2.1.toNat]?.getD (0, 0)) (P[t.2.2.toNat]?.getD (0, 0)))) &&
    (wholeB P T && (outerL (keysOf T)).all fun x => decide (0 ≤ x ∧ x < (P.length : Int))))))

theorem shape_form (k : Nat) : formB (shapeQ k) (shapeT k) = true := by
  unfold shapeQ shapeP shapeT
  split <;> decide +kernel
theorem getD_move (s t d : Rat) (P : List PtQ) (i : Nat) (h : i < P.length) : (P.map (moveP s t d))[i]?.getD (0, 0) = moveP s t d (P[i]?.getD (0, 0)) := by
  rw [List.getElem?_map, List.getElem?_eq_getElem h]; rfl
theorem ptAt_move (s t d : Rat) (P : List PtQ) (c : List Int) (hc : ∀ x ∈ c, 0 ≤ x ∧ x < (P.length : Int)) (hne : c ≠ []) (i : Nat) : ptAt (P.map (moveP s t d)) c i = moveP s t d (ptAt P c i) := by
  unfold ptAt
  have hl : i % c.length < c.length := Nat.mod_lt _ (List.length_pos_iff.2 hne)
  have := hc c[i % c.length] (List.getElem_mem hl)
  rw [List.getElem?_eq_getElem hl, Option.getD_some]
  exact getD_move s t d P _ (by omega)
theorem moveP_inj (s t d : Rat) (hd : 0 < d) {p q : PtQ} (h : moveP s t d p = moveP s t d q) : p = q := by
  unfold moveP at h
  have h1 := congrArg Prod.fst h
  have h2 := congrArg Prod.snd h
  dsimp only at h1 h2
  have key : ∀ a b z : Rat, (a + z) * d = (b + z) * d → a = b := fun a b z e => by
    have e1 : (a - b) * d = 0 := by grind
    rcases Rat.mul_eq_zero.1 e1 with e2 | e2
    · grind
    · rw [e2] at hd; exact absurd hd (Rat.lt_irrefl)
  exact Prod.ext (key _ _ _ h1) (key _ _ _ h2)

theorem form_move (s t d : Rat) (hd : 0 < d) (P : List PtQ) (T : List Tri) (h : formB P T = true) : formB (P.map (moveP s t d)) T = true := by
  unfold formB at *
  simp only [Bool.and_eq_true, List.all_eq_true, decide_eq_true_eq, List.length_map] at *
  obtain ⟨h1, h2, h3, h4, h5, h6⟩ := h
  have hin : ∀ t ∈ T, ∀ x ∈ idxOf t, x.toNat < P.length := fun t ht x hx => by have := h3 t ht x hx; omega
  refine ⟨h1, ?_, h3, ?_, ?_, h6⟩
  · exact List.Pairwise.map _ (fun a b hab e => hab (moveP_inj s t d hd e)) h2
  · intro tr htr
    have i0 := hin tr htr tr.1 (by simp [idxOf])
    have i1 := hin tr htr tr.2.1 (by simp [idxOf])
    have i2 := hin tr htr tr.2.2 (by simp [idxOf])
    rw [getD_move _ _ _ _ _ i0, getD_move _ _ _ _ _ i1, getD_move _ _ _ _ _ i2, turnZ_move s t d hd]
    exact h4 tr htr
  · unfold wholeB at *
    simp only [Bool.and_eq_true, List.length_map] at *
    refine ⟨h5.1, ⟨h5.2.1.1, h5.2.1.2⟩, ?_⟩
    have hne : outerL (keysOf T) ≠ [] := by
      have := h5.2.1.1
      intro e
      rw [e] at this
      simp at this
    have hpt := ptAt_move s t d P (outerL (keysOf T)) h6 hne
    rw [← h5.2.2]
    unfold onceB roundsN
    have e1 : bentAt (P.map (moveP s t d)) (outerL (keysOf T)) = bentAt P (outerL (keysOf T)) := funext fun i => by unfold bentAt; rw [hpt, hpt, hpt, turnZ_move s t d hd]
    have e2 : riseAt (P.map (moveP s t d)) (outerL (keysOf T)) = riseAt P (outerL (keysOf T)) := funext fun i => by unfold riseAt upAt; rw [hpt, hpt, hpt, upB_move s t d hd, upB_move s t d hd]
    rw [e1, e2]

theorem MeshOK.of_form {P : List PtQ} {T : List Tri} {k : Nat} (hk : 0 < k) (hk2 : k ≤ 200) (hs : ∀ p ∈ P, SzP k p) (hp : P.length ≤ 400) (ht : T.length ≤ 800) (h : formB P T = true) : MeshOK P T k := by
  unfold formB at h
  simp only [Bool.and_eq_true, List.all_eq_true, decide_eq_true_eq] at h
  obtain ⟨h1, h2, h3, h4, h5, h6⟩ := h
  exact { kpos := hk, klim := by omega, sz := hs, plen := hp, tlen := ht, idx := h3, klim2 := hk2, some := by intro e; rw [e] at h1; simp at h1, apart := h2, turns := h4, whole := h5 }

theorem placeQ_move (s : Int) (half : Bool) (x : Int) : placeQ s half x = ((x : Rat) + (s.tmod 8 : Int)) * (1 / (halfD half : Rat)) := by
  unfold placeQ
  have h0 : (halfD half : Rat) ≠ 0 := by cases half <;> decide
  rw [Rat.mkRat_eq_div]
  grind
theorem placeQ_Sz (s : Int) (half : Bool) (x : Int) (hx : 0 ≤ x ∧ x ≤ 6) : Sz 2 (placeQ s half x) := by
  have := tmod8_bound s
  exact Sz.mkRat (by cases half <;> decide) (by omega) (by cases half <;> decide)

theorem sheet_ok (k : Nat) (s0 s1 : Int) (half : Bool) : MeshOK (sheetP k s0 s1 half) (shapeT k) 2 := by
  refine MeshOK.of_form (by omega) (by omega) ?_ ?_ ?_ ?_
  · intro p hp
    obtain ⟨q, hq, rfl⟩ := List.mem_map.1 hp
    have := shapeP_small k q hq
    exact ⟨placeQ_Sz _ _ _ this.1, placeQ_Sz _ _ _ this.2⟩
  · unfold sheetP
    have := shapeP_len k
    rw [List.length_map]; omega
  · unfold shapeT
    split <;> decide
  · have e : sheetP k s0 s1 half = (shapeQ k).map (moveP (s0.tmod 8 : Int) (s1.tmod 8 : Int) (1 / (halfD half : Rat))) := by
      unfold sheetP shapeQ
      rw [List.map_map]
      refine List.map_congr_left fun p _ => ?_
      show (_, _) = moveP _ _ _ _
      unfold moveP
      rw [placeQ_move, placeQ_move]
    rw [e]
    exact form_move _ _ _ (by cases half <;> decide +kernel) _ _ (shape_form k)
end Go.Proofs.YtdhcliekejiegaaGreatDoor

/- The walk over klippelaw38.known. -/
namespace Go.Proofs.YtdhcliekejiegaaGreatDoor
open Go.RowKit Go.Lib

theorem sz1 (n : Nat) (h : n < 10) : Sz 1 ((n : Int) : Rat) := ⟨by rw [Rat.num_intCast]; omega, by rw [Rat.den_intCast]; omega⟩
end Go.Proofs.YtdhcliekejiegaaGreatDoor

/- The walk over klippelaw38.Make. -/
namespace Go.Proofs.YtdhcliekejiegaaGreatDoor
open Go.RowKit Go.Lib

theorem sheetP_length (k : Nat) (s0 s1 : Int) (half : Bool) : (sheetP k s0 s1 half).length = (shapeP k).length := by simp [sheetP]

end Go.Proofs.YtdhcliekejiegaaGreatDoor

/- Plain: sizes of slopes; texts of at most 20 bytes. -/
namespace Go.Proofs.YtdhcliekejiegaaGreatDoor
open Go.RowKit Go.Lib

end Go.Proofs.YtdhcliekejiegaaGreatDoor
