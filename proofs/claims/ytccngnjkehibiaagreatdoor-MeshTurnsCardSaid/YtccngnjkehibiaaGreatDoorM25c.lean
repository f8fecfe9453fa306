/- The tied card of klippelaw12.MeshTurns: for any sheet and any pair of indices, Turn returns the mesh with the edge turned, which is right, or the first error: the law returns true at every input, and the arguments read as before. Without a condition. -/
import Derived.Test.YtccngnjkehibiaaGreatDoorM25
import Derived.Test.YtccngnjkehibiaaGreatDoorRA
import Derived.Test.YtccngnjkehibiaaGreatDoorCards
import Derived.Test.YtccngnjkehibiaaGreatDoorTie
import Derived.SevenTiedAt
namespace Go.Proofs.YtccngnjkehibiaaGreatDoor
open Go Go.ChangeShapes Go.WideShapes Go.ChangeAt Go.RowKit Go.Lib

set_option maxRecDepth 100000 in
theorem meshTurns_lifted (os : Os) (started : os.Started) (H : Type) (enc : TypeId × Value → H) :
    ReturnsInHanded {} Tryz.checked os 8 .any (fun w args => (Rows.meshTurnsSpec.pre enc Tryz.prog Tryz.f8 [] false w args ∧ laidMetH Tryz.prog Rows.meshTurnsRow.laid w) ∧ sizedMet enc Tryz.prog Tryz.f8 (OpenSpec.ofChange Rows.meshTurnsSpec) false w args)
      (Rows.meshTurnsSpec.post enc Tryz.prog Tryz.f8 false true false false) := by
  refine returns_and_shaped (C := Tryz.checked) (X := fun w _ => laidMetH Tryz.prog Rows.meshTurnsRow.laid w) (fun _ _ _ hh h => h.of_heap hh) own started (by kernel_rfl) Tryz.func8
    (ChangeSpec.witness_shaped (enc := enc) (C := Tryz.checked) (os := os) (X := fun w _ => laidMetH Tryz.prog Rows.meshTurnsRow.laid w) false (World.doorLaid Tryz.prog 62 os)
      #[.agg #[.int .u8 0, .int .i8 0, .int .i8 0, .bool false], .agg #[.int .i8 0, .int .i8 0]]
      8 rfl (World.shaped_of_RefB (by kernel_rfl) (by kernel_rfl)) (by kernel_rfl) (by kernel_rfl) (by kernel_rfl) (door_met os _)) ?_
  intro W base args ds gs before hval0 hW hL hsh
  have hval : ∀ (j : Nat) t v, Tryz.f8.params[j]? = some t → args[j]? = some v → Value.okWide Tryz.prog W .any base t v := hval0
  have hgd := good_of (by simp [Rows.meshTurnsRow]) (by kernel_rfl) hL hsh
  have hW' := hW
  obtain ⟨p, q, hA0, hV, rfl, _, _⟩ := hW
  have hA : DataW.TrodAll enc Tryz.prog W 0 (fun _ => true) true Tryz.f8.params.toList args.toList ds p := hA0
  rw [Tryz.params8] at hA hval
  obtain ⟨v0, v1, d0, d1, p0, p1, rfl, rfl, _, _, _⟩ := trodAll_two hA
  obtain ⟨kz, s0, s1, half, rfl, hkz, hs0, hs1⟩ := open_sheet (hval 0 _ v0 rfl rfl)
  obtain ⟨x1, y1, rfl, hx1, hy1⟩ := open_b2 (hval 1 _ v1 rfl rfl)
  clear hA0 hval0 hA hval
  refine (meshTurns_all W kz s0 s1 half x1 y1 hkz.1 hkz.2 hs0 hs1  hx1 hy1 hgd).mono ?_
  rintro e W' ⟨v, rfl, rfl, hbel⟩
  exact ⟨_, rfl, post_true laidOut hW' rfl boolT rfl (by kernel_rfl) rfl hbel⟩

theorem meshTurns_holds : Rows.MeshTurnsSaid :=
  OpenClaim.holds_of_wide 8 Tryz.f8 rfl rfl rfl rfl rfl rfl rfl ⟨rfl, rfl, rfl, rfl, rfl⟩ rfl rfl rfl rfl rfl (by kernel_rfl) Tryz.func8 (by kernel_rfl)
    (of_decide_eq_true (by kernel_rfl)) (by unfold Func.isWrapper; first | (rw [if_pos (by decide +kernel)]; kernel_rfl) | (rw [if_neg (by decide +kernel)]; exact ⟨rfl, rfl⟩))
    (fun os started H enc _ => meshTurns_lifted os started H enc)

theorem meshTurns_card : Rows.MeshTurnsCardSaid :=
  Claim7.holds_tied_plain_at .later [] [.data, .data, .data, .sentinel, .sentinel] true Rows.meshTurnsCard.stood.harness true
    meshTurns_holds (fun _ h => by cases h) (by kernel_rfl) (fun _ h => by cases h) meshTurns_row_tie rfl ⟨rfl, rfl⟩ (by kernel_rfl) rfl
    (fun f fn hf hfn => by
      obtain rfl : f = 8 := Option.some.inj ((show Tryz.prog.funcNamed "klippe/klippelaw12.MeshTurns" = some 8 by kernel_rfl).symm.trans hf) |>.symm
      obtain rfl : fn = Tryz.f8 := (Option.some.inj (Tryz.func8.symm.trans hfn)).symm
      exact ⟨by kernel_rfl, fun j t ht => by
        rw [Tryz.params8] at ht
        have hm : t ∈ [49, 47] := by simpa using Array.mem_of_getElem? ht
        have hall : ([49, 47].all fun u => !Tryz.prog.wantsStandIn u) = true := by kernel_rfl
        exact (show Tryz.prog.wantsStandIn t = false by simpa using List.all_eq_true.1 hall t hm)⟩)
    (by kernel_rfl)
#print axioms meshTurns_card
end Go.Proofs.YtccngnjkehibiaaGreatDoor
