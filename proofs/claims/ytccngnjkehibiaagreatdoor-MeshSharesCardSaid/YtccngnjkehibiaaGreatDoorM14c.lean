/- The tied card of klippelaw12.MeshShares: for any sheet, any index of a triangle and any place of sixths, Shares returns the weights: they add up to 1, and give the place; or the first error: the law returns true at every input, and the arguments read as before. Without a condition. -/
import Derived.Test.YtccngnjkehibiaaGreatDoorM14
import Derived.Test.YtccngnjkehibiaaGreatDoorR5
import Derived.Test.YtccngnjkehibiaaGreatDoorCards
import Derived.Test.YtccngnjkehibiaaGreatDoorTie
import Derived.SevenTiedAt
namespace Go.Proofs.YtccngnjkehibiaaGreatDoor
open Go Go.ChangeShapes Go.WideShapes Go.ChangeAt Go.RowKit Go.Lib

set_option maxRecDepth 100000 in
theorem meshShares_lifted (os : Os) (started : os.Started) (H : Type) (enc : TypeId × Value → H) :
    ReturnsInHanded {} Tryz.checked os 5 .any (fun w args => (Rows.meshSharesSpec.pre enc Tryz.prog Tryz.f5 [] false w args ∧ laidMetH Tryz.prog Rows.meshSharesRow.laid w) ∧ sizedMet enc Tryz.prog Tryz.f5 (OpenSpec.ofChange Rows.meshSharesSpec) false w args)
      (Rows.meshSharesSpec.post enc Tryz.prog Tryz.f5 false true false false) := by
  refine returns_and_shaped (C := Tryz.checked) (X := fun w _ => laidMetH Tryz.prog Rows.meshSharesRow.laid w) (fun _ _ _ hh h => h.of_heap hh) own started (by kernel_rfl) Tryz.func5
    (ChangeSpec.witness_shaped (enc := enc) (C := Tryz.checked) (os := os) (X := fun w _ => laidMetH Tryz.prog Rows.meshSharesRow.laid w) false (World.doorLaid Tryz.prog 62 os)
      #[.agg #[.int .u8 0, .int .i8 0, .int .i8 0, .bool false], .int .i64 0, .agg #[.int .i8 0, .int .i8 0]]
      8 rfl (World.shaped_of_RefB (by kernel_rfl) (by kernel_rfl)) (by kernel_rfl) (by kernel_rfl) (by kernel_rfl) (door_met os _)) ?_
  intro W base args ds gs before hval0 hW hL hsh
  have hval : ∀ (j : Nat) t v, Tryz.f5.params[j]? = some t → args[j]? = some v → Value.okWide Tryz.prog W .any base t v := hval0
  have hgd := good_of (by simp [Rows.meshSharesRow]) (by kernel_rfl) hL hsh
  have hW' := hW
  obtain ⟨p, q, hA0, hV, rfl, _, _⟩ := hW
  have hA : DataW.TrodAll enc Tryz.prog W 0 (fun _ => true) true Tryz.f5.params.toList args.toList ds p := hA0
  rw [Tryz.params5] at hA hval
  obtain ⟨v0, v1, v2, d0, d1, d2, p0, p1, p2, rfl, rfl, _, _, _, _⟩ := trodAll_three hA
  obtain ⟨kz, s0, s1, half, rfl, hkz, hs0, hs1⟩ := open_sheet (hval 0 _ v0 rfl rfl)
  obtain ⟨n1, rfl, hn1⟩ := open_i64 (hval 1 _ v1 rfl rfl)
  obtain ⟨x2, y2, rfl, hx2, hy2⟩ := open_b2 (hval 2 _ v2 rfl rfl)
  clear hA0 hval0 hA hval
  refine (meshShares_all W kz s0 s1 half n1 x2 y2 hkz.1 hkz.2 hs0 hs1   hx2 hy2 hgd).mono ?_
  rintro e W' ⟨v, rfl, rfl, hbel⟩
  exact ⟨_, rfl, post_true laidOut hW' rfl boolT rfl (by kernel_rfl) rfl hbel⟩

theorem meshShares_holds : Rows.MeshSharesSaid :=
  OpenClaim.holds_of_wide 5 Tryz.f5 rfl rfl rfl rfl rfl rfl rfl ⟨rfl, rfl, rfl, rfl, rfl⟩ rfl rfl rfl rfl rfl (by kernel_rfl) Tryz.func5 (by kernel_rfl)
    (of_decide_eq_true (by kernel_rfl)) (by unfold Func.isWrapper; first | (rw [if_pos (by decide +kernel)]; kernel_rfl) | (rw [if_neg (by decide +kernel)]; exact ⟨rfl, rfl⟩))
    (fun os started H enc _ => meshShares_lifted os started H enc)

theorem meshShares_card : Rows.MeshSharesCardSaid :=
  Claim7.holds_tied_plain_at .later [] [.data, .data, .data, .sentinel, .sentinel] true Rows.meshSharesCard.stood.harness true
    meshShares_holds (fun _ h => by cases h) (by kernel_rfl) (fun _ h => by cases h) meshShares_row_tie rfl ⟨rfl, rfl⟩ (by kernel_rfl) rfl
    (fun f fn hf hfn => by
      obtain rfl : f = 5 := Option.some.inj ((show Tryz.prog.funcNamed "klippe/klippelaw12.MeshShares" = some 5 by kernel_rfl).symm.trans hf) |>.symm
      obtain rfl : fn = Tryz.f5 := (Option.some.inj (Tryz.func5.symm.trans hfn)).symm
      exact ⟨by kernel_rfl, fun j t ht => by
        rw [Tryz.params5] at ht
        have hm : t ∈ [49, 3, 47] := by simpa using Array.mem_of_getElem? ht
        have hall : ([49, 3, 47].all fun u => !Tryz.prog.wantsStandIn u) = true := by kernel_rfl
        exact (show Tryz.prog.wantsStandIn t = false by simpa using List.all_eq_true.1 hall t hm)⟩)
    (by kernel_rfl)
#print axioms meshShares_card
end Go.Proofs.YtccngnjkehibiaaGreatDoor
