/- The tied card of klippelaw38.ThicknessIsopachs: for any plan and any value of at most 20 bytes, Isopach returns the level lines of the vertical thickness, or ErrNumber: the law returns true at every input, and the arguments read as before. Without a condition. -/
import Derived.Test.YtjfjkiibmfgplaaGreatDoorE8
import Derived.Test.YtjfjkiibmfgplaaGreatDoorR3
import Derived.Test.YtjfjkiibmfgplaaGreatDoorCards
import Derived.Test.YtjfjkiibmfgplaaGreatDoorTie
import Derived.SevenTiedAt
namespace Go.Proofs.YtjfjkiibmfgplaaGreatDoor
open Go Go.ChangeShapes Go.WideShapes Go.ChangeAt Go.RowKit Go.Lib

set_option maxRecDepth 100000 in
theorem thicknessIsopachs_lifted (os : Os) (started : os.Started) (H : Type) (enc : TypeId × Value → H) :
    ReturnsInHanded {} Tryz.checked os 5 .any (fun w args => (Rows.thicknessIsopachsSpec.pre enc Tryz.prog Tryz.f5 [] false w args ∧ laidMetH Tryz.prog Rows.thicknessIsopachsRow.laid w) ∧ sizedMet enc Tryz.prog Tryz.f5 (OpenSpec.ofChange Rows.thicknessIsopachsSpec) false w args)
      (Rows.thicknessIsopachsSpec.post enc Tryz.prog Tryz.f5 false true false false) := by
  refine returns_and_shaped (C := Tryz.checked) (X := fun w _ => laidMetH Tryz.prog Rows.thicknessIsopachsRow.laid w) (fun _ _ _ hh h => h.of_heap hh) own started (by kernel_rfl) Tryz.func5
    (ChangeSpec.witness_shaped (enc := enc) (C := Tryz.checked) (os := os) (X := fun w _ => laidMetH Tryz.prog Rows.thicknessIsopachsRow.laid w) false (World.doorLaid Tryz.prog 62 os)
      #[.agg #[.int .u8 0, .int .i8 0, .int .i8 0, .bool false, .int .i8 0, .int .i8 0, .int .i8 0, .int .i8 0, .int .i8 0, .int .i8 0, .bool false, .int .i8 0, .int .i8 0, .int .i8 0, .int .i8 0, .int .i8 0, .int .i8 0, .bool false, .bool false, .int .i8 0], .string ⟨#[]⟩]
      8 rfl (World.shaped_of_RefB (by kernel_rfl) (by kernel_rfl)) (by kernel_rfl) (by kernel_rfl) (by kernel_rfl) (door_met os _)) ?_
  intro W base args ds gs before hval0 hW hL hsh
  have hval : ∀ (j : Nat) t v, Tryz.f5.params[j]? = some t → args[j]? = some v → Value.okWide Tryz.prog W .any base t v := hval0
  have hgd := good_of (by simp [Rows.thicknessIsopachsRow]) (by kernel_rfl) hL hsh
  have hW' := hW
  obtain ⟨p, q, hA0, hV, rfl, _, _⟩ := hW
  have hA : DataW.TrodAll enc Tryz.prog W 0 (fun _ => true) true Tryz.f5.params.toList args.toList ds p := hA0
  rw [Tryz.params5] at hA hval
  obtain ⟨v0, v1, d0, d1, p0, p1, rfl, rfl, _, _, _⟩ := trodAll_two hA
  obtain ⟨kz, s0, s1, half, a0, a1, a2, a3, a4, a5, ah, b0, b1, b2, b3, b4, b5, bh, even, add, rfl, hkz, hs0, hs1, ha, hb, hadd⟩ := open_plan (hval 0 _ v0 rfl rfl)
  obtain ⟨t1, rfl, ht1⟩ := open_rat (hval 1 _ v1 rfl rfl)
  clear hA0 hval0 hA hval
  refine (isopachs_all W kz s0 s1 half a0 a1 a2 a3 a4 a5 ah b0 b1 b2 b3 b4 b5 bh even add t1  ht1 hkz.1 hkz.2 hs0 hs1 ha hb hadd hgd).mono ?_
  rintro e W' ⟨v, rfl, rfl, hbel⟩
  exact ⟨_, rfl, post_true laidOut hW' rfl boolT rfl (by kernel_rfl) rfl hbel⟩

theorem thicknessIsopachs_holds : Rows.ThicknessIsopachsSaid :=
  OpenClaim.holds_of_wide 5 Tryz.f5 rfl rfl rfl rfl rfl rfl rfl ⟨rfl, rfl, rfl, rfl, rfl⟩ rfl rfl rfl rfl rfl (by kernel_rfl) Tryz.func5 (by kernel_rfl)
    (of_decide_eq_true (by kernel_rfl)) (by unfold Func.isWrapper; first | (rw [if_pos (by decide +kernel)]; kernel_rfl) | (rw [if_neg (by decide +kernel)]; exact ⟨rfl, rfl⟩))
    (fun os started H enc _ => thicknessIsopachs_lifted os started H enc)

theorem thicknessIsopachs_card : Rows.ThicknessIsopachsCardSaid :=
  Claim7.holds_tied_plain_at .later [] [.data, .data, .data, .sentinel, .sentinel] true Rows.thicknessIsopachsCard.stood.harness true
    thicknessIsopachs_holds (fun _ h => by cases h) (by kernel_rfl) (fun _ h => by cases h) thicknessIsopachs_row_tie rfl ⟨rfl, rfl⟩ (by kernel_rfl) rfl
    (fun f fn hf hfn => by
      obtain rfl : f = 5 := Option.some.inj ((show Tryz.prog.funcNamed "klippe/klippelaw38.ThicknessIsopachs" = some 5 by kernel_rfl).symm.trans hf) |>.symm
      obtain rfl : fn = Tryz.f5 := (Option.some.inj (Tryz.func5.symm.trans hfn)).symm
      exact ⟨by kernel_rfl, fun j t ht => by
        rw [Tryz.params5] at ht
        have hm : t ∈ [32, 33] := by simpa using Array.mem_of_getElem? ht
        have hall : ([32, 33].all fun u => !Tryz.prog.wantsStandIn u) = true := by kernel_rfl
        exact (show Tryz.prog.wantsStandIn t = false by simpa using List.all_eq_true.1 hall t hm)⟩)
    (by kernel_rfl)
#print axioms thicknessIsopachs_card
end Go.Proofs.YtjfjkiibmfgplaaGreatDoor
