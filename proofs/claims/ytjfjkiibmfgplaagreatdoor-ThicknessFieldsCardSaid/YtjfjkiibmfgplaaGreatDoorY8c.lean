/- The tied card of klippelaw38.ThicknessFields: for any plan with a number of its lower surface changed to any text of at most 20 bytes, Contours and Dips return the error of field.Check, or of mesh.Check without a triangle: the law returns true at every input, and the arguments read as before. Without a condition. -/
import Derived.Test.YtjfjkiibmfgplaaGreatDoorY8
import Derived.Test.YtjfjkiibmfgplaaGreatDoorR3
import Derived.Test.YtjfjkiibmfgplaaGreatDoorCards
import Derived.Test.YtjfjkiibmfgplaaGreatDoorTie
import Derived.SevenTiedAt
namespace Go.Proofs.YtjfjkiibmfgplaaGreatDoor
open Go Go.ChangeShapes Go.WideShapes Go.ChangeAt Go.RowKit Go.Lib

set_option maxRecDepth 100000 in
theorem thicknessFields_lifted (os : Os) (started : os.Started) (H : Type) (enc : TypeId × Value → H) :
    ReturnsInHanded {} Tryz.checked os 7 .any (fun w args => (Rows.thicknessFieldsSpec.pre enc Tryz.prog Tryz.f7 [] false w args ∧ laidMetH Tryz.prog Rows.thicknessFieldsRow.laid w) ∧ sizedMet enc Tryz.prog Tryz.f7 (OpenSpec.ofChange Rows.thicknessFieldsSpec) false w args)
      (Rows.thicknessFieldsSpec.post enc Tryz.prog Tryz.f7 false true false false) := by
  refine returns_and_shaped (C := Tryz.checked) (X := fun w _ => laidMetH Tryz.prog Rows.thicknessFieldsRow.laid w) (fun _ _ _ hh h => h.of_heap hh) own started (by kernel_rfl) Tryz.func7
    (ChangeSpec.witness_shaped (enc := enc) (C := Tryz.checked) (os := os) (X := fun w _ => laidMetH Tryz.prog Rows.thicknessFieldsRow.laid w) false (World.doorLaid Tryz.prog 62 os)
      #[.agg #[.int .u8 0, .int .i8 0, .int .i8 0, .bool false, .int .i8 0, .int .i8 0, .int .i8 0, .int .i8 0, .int .i8 0, .int .i8 0, .bool false, .int .i8 0, .int .i8 0, .int .i8 0, .int .i8 0, .int .i8 0, .int .i8 0, .bool false, .bool false, .int .i8 0], .string ⟨#[]⟩, .bool false]
      8 rfl (World.shaped_of_RefB (by kernel_rfl) (by kernel_rfl)) (by kernel_rfl) (by kernel_rfl) (by kernel_rfl) (door_met os _)) ?_
  intro W base args ds gs before hval0 hW hL hsh
  have hval : ∀ (j : Nat) t v, Tryz.f7.params[j]? = some t → args[j]? = some v → Value.okWide Tryz.prog W .any base t v := hval0
  have hgd := good_of (by simp [Rows.thicknessFieldsRow]) (by kernel_rfl) hL hsh
  have hW' := hW
  obtain ⟨p, q, hA0, hV, rfl, _, _⟩ := hW
  have hA : DataW.TrodAll enc Tryz.prog W 0 (fun _ => true) true Tryz.f7.params.toList args.toList ds p := hA0
  rw [Tryz.params7] at hA hval
  obtain ⟨v0, v1, v2, d0, d1, d2, p0, p1, p2, rfl, rfl, _, _, _, _⟩ := trodAll_three hA
  obtain ⟨kz, s0, s1, half, a0, a1, a2, a3, a4, a5, ah, b0, b1, b2, b3, b4, b5, bh, even, add, rfl, hkz, hs0, hs1, ha, hb, hadd⟩ := open_plan (hval 0 _ v0 rfl rfl)
  obtain ⟨t1, rfl, ht1⟩ := open_rat (hval 1 _ v1 rfl rfl)
  obtain ⟨n2, rfl⟩ := okWide_bool boolT (hval 2 _ v2 rfl rfl)
  clear hA0 hval0 hA hval
  refine (fields_all W kz s0 s1 half a0 a1 a2 a3 a4 a5 ah b0 b1 b2 b3 b4 b5 bh even add t1 n2  ht1  hkz.1 hkz.2 hs0 hs1 ha hb hadd hgd).mono ?_
  rintro e W' ⟨v, rfl, rfl, hbel⟩
  exact ⟨_, rfl, post_true laidOut hW' rfl boolT rfl (by kernel_rfl) rfl hbel⟩

theorem thicknessFields_holds : Rows.ThicknessFieldsSaid :=
  OpenClaim.holds_of_wide 7 Tryz.f7 rfl rfl rfl rfl rfl rfl rfl ⟨rfl, rfl, rfl, rfl, rfl⟩ rfl rfl rfl rfl rfl (by kernel_rfl) Tryz.func7 (by kernel_rfl)
    (of_decide_eq_true (by kernel_rfl)) (by unfold Func.isWrapper; first | (rw [if_pos (by decide +kernel)]; kernel_rfl) | (rw [if_neg (by decide +kernel)]; exact ⟨rfl, rfl⟩))
    (fun os started H enc _ => thicknessFields_lifted os started H enc)

theorem thicknessFields_card : Rows.ThicknessFieldsCardSaid :=
  Claim7.holds_tied_plain_at .later [] [.data, .data, .data, .sentinel, .sentinel] true Rows.thicknessFieldsCard.stood.harness true
    thicknessFields_holds (fun _ h => by cases h) (by kernel_rfl) (fun _ h => by cases h) thicknessFields_row_tie rfl ⟨rfl, rfl⟩ (by kernel_rfl) rfl
    (fun f fn hf hfn => by
      obtain rfl : f = 7 := Option.some.inj ((show Tryz.prog.funcNamed "klippe/klippelaw38.ThicknessFields" = some 7 by kernel_rfl).symm.trans hf) |>.symm
      obtain rfl : fn = Tryz.f7 := (Option.some.inj (Tryz.func7.symm.trans hfn)).symm
      exact ⟨by kernel_rfl, fun j t ht => by
        rw [Tryz.params7] at ht
        have hm : t ∈ [32, 33, 4] := by simpa using Array.mem_of_getElem? ht
        have hall : ([32, 33, 4].all fun u => !Tryz.prog.wantsStandIn u) = true := by kernel_rfl
        exact (show Tryz.prog.wantsStandIn t = false by simpa using List.all_eq_true.1 hall t hm)⟩)
    (by kernel_rfl)
#print axioms thicknessFields_card
end Go.Proofs.YtjfjkiibmfgplaaGreatDoor
