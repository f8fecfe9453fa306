/- The tied card of klippelaw12.MeshEdges: for any sheet and any index of a triangle, Area, Edges, Neighbours, Boundary and Corners return what the definitions say, or ErrRange: the law returns true at every input, and never panics. Without a condition. -/
import Derived.Test.YtdhcliekejiegaaGreatDoorM48h
import Derived.Test.YtdhcliekejiegaaGreatDoorRA
import Derived.Test.YtdhcliekejiegaaGreatDoorCards
import Derived.Test.YtdhcliekejiegaaGreatDoorTie
import Derived.SevenTiedAt
namespace Go.Proofs.YtdhcliekejiegaaGreatDoor
open Go Go.ChangeShapes Go.WideShapes Go.ChangeAt Go.RowKit Go.Lib

set_option maxRecDepth 100000 in
theorem meshEdges_lifted (os : Os) (started : os.Started) (H : Type) (enc : TypeId × Value → H) :
    ReturnsInHanded {} Tryz.checked os 3 .any (fun w args => (Rows.meshEdgesSpec.pre enc Tryz.prog Tryz.f3 [] false w args ∧ laidMetH Tryz.prog Rows.meshEdgesRow.laid w) ∧ sizedMet enc Tryz.prog Tryz.f3 (OpenSpec.ofChange Rows.meshEdgesSpec) false w args)
      (Rows.meshEdgesSpec.post enc Tryz.prog Tryz.f3 false true false false) := by
  refine returns_and_shaped (C := Tryz.checked) (X := fun w _ => laidMetH Tryz.prog Rows.meshEdgesRow.laid w) (fun _ _ _ hh h => h.of_heap hh) own started (by kernel_rfl) Tryz.func3
    (ChangeSpec.witness_shaped (enc := enc) (C := Tryz.checked) (os := os) (X := fun w _ => laidMetH Tryz.prog Rows.meshEdgesRow.laid w) false (World.doorLaid Tryz.prog 62 os)
      #[.agg #[.int .u8 0, .int .i8 0, .int .i8 0, .bool false], .int .i64 0]
      8 rfl (World.shaped_of_RefB (by kernel_rfl) (by kernel_rfl)) (by kernel_rfl) (by kernel_rfl) (by kernel_rfl) (door_met os _)) ?_
  intro W base args ds gs before hval0 hW hL hsh
  have hval : ∀ (j : Nat) t v, Tryz.f3.params[j]? = some t → args[j]? = some v → Value.okWide Tryz.prog W .any base t v := hval0
  have hgd := good_of (by simp [Rows.meshEdgesRow]) (by kernel_rfl) hL hsh
  have hW' := hW
  obtain ⟨p, q, hA0, hV, rfl, _, _⟩ := hW
  have hA : DataW.TrodAll enc Tryz.prog W 0 (fun _ => true) true Tryz.f3.params.toList args.toList ds p := hA0
  rw [Tryz.params3] at hA hval
  obtain ⟨v0, v1, d0, d1, p0, p1, rfl, rfl, _, _, _⟩ := trodAll_two hA
  obtain ⟨kz, s0, s1, half, rfl, hkz, hs0, hs1⟩ := open_sheet (hval 0 _ v0 rfl rfl)
  obtain ⟨n1, rfl, hn1⟩ := open_i64 (hval 1 _ v1 rfl rfl)
  clear hA0 hval0 hA hval
  refine (meshEdges_all W kz s0 s1 half n1 hkz.1 hkz.2 hs0 hs1   hgd).mono ?_
  rintro e W' ⟨v, rfl, rfl, hbel⟩
  exact ⟨_, rfl, post_true laidOut hW' rfl boolT rfl (by kernel_rfl) rfl hbel⟩

theorem and2b {a b : Bool} (h1 : a = true) (h2 : b = true) : (a && b) = true := by rw [h1, h2]; rfl
set_option maxHeartbeats 4000000 in
theorem meshEdges_facts : joinedFacts Tryz.checked.prog 3 Tryz.f3 Rows.meshEdgesSpec Rows.meshEdgesRow = true := by
  unfold joinedFacts
  repeat' (with_reducible refine and2b ?_ ?_)
  all_goals (as_aux_lemma => kernel_rfl)
theorem meshEdges_named : Tryz.checked.prog.funcNamed Rows.meshEdgesRow.func = some 3 := by kernel_rfl

set_option maxHeartbeats 4000000 in
theorem meshEdges_holds : Rows.MeshEdgesSaid :=
  OpenClaim.holds_of_wide 3 Tryz.f3 rfl rfl rfl rfl rfl rfl rfl ⟨rfl, rfl, rfl, rfl, rfl⟩ rfl rfl rfl rfl rfl meshEdges_named Tryz.func3 meshEdges_facts
    (of_decide_eq_true (by as_aux_lemma => kernel_rfl)) (by unfold Func.isWrapper; first | (rw [if_pos (by decide +kernel)]; kernel_rfl) | (rw [if_neg (by decide +kernel)]; exact ⟨rfl, rfl⟩))
    (fun os started H enc _ => meshEdges_lifted os started H enc)

set_option maxHeartbeats 4000000 in
theorem meshEdges_card : Rows.MeshEdgesCardSaid :=
  Claim7.holds_tied_plain_at .later [] [.data, .data, .data, .sentinel, .sentinel] true Rows.meshEdgesCard.stood.harness true
    meshEdges_holds (fun _ h => by cases h) (by as_aux_lemma => kernel_rfl) (fun _ h => by cases h) meshEdges_row_tie rfl ⟨rfl, rfl⟩ (by as_aux_lemma => kernel_rfl) rfl
    (fun f fn hf hfn => by
      obtain rfl : f = 3 := Option.some.inj ((show Tryz.prog.funcNamed "klippe/klippelaw12.MeshEdges" = some 3 by kernel_rfl).symm.trans hf) |>.symm
      obtain rfl : fn = Tryz.f3 := (Option.some.inj (Tryz.func3.symm.trans hfn)).symm
      exact ⟨by as_aux_lemma => kernel_rfl, fun j t ht => by
        rw [Tryz.params3] at ht
        have hm : t ∈ [25, 3] := by simpa using Array.mem_of_getElem? ht
        have hall : ([25, 3].all fun u => !Tryz.prog.wantsStandIn u) = true := by kernel_rfl
        exact (show Tryz.prog.wantsStandIn t = false by simpa using List.all_eq_true.1 hall t hm)⟩)
    (by as_aux_lemma => kernel_rfl)
#print axioms meshEdges_card
end Go.Proofs.YtdhcliekejiegaaGreatDoor
