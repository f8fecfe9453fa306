/- The tied card of klippelaw38.ThicknessChecks: for any plan and any change of its pair (by two numbers), Check returns OK or the first error, and all functions this error: the law returns true at every input, and the arguments read as before. Without a condition. -/
import Derived.Test.YtjfjkiibmfgplaaGreatDoorY11
import Derived.Test.YtjfjkiibmfgplaaGreatDoorR3
import Derived.Test.YtjfjkiibmfgplaaGreatDoorCards
import Derived.Test.YtjfjkiibmfgplaaGreatDoorTie
import Derived.SevenTiedAt
namespace Go.Proofs.YtjfjkiibmfgplaaGreatDoor
open Go Go.ChangeShapes Go.WideShapes Go.ChangeAt Go.RowKit Go.Lib

set_option maxRecDepth 100000 in
theorem thicknessChecks_lifted (os : Os) (started : os.Started) (H : Type) (enc : TypeId × Value → H) :
    ReturnsInHanded {} Tryz.checked os 9 .any (fun w args => (Rows.thicknessChecksSpec.pre enc Tryz.prog Tryz.f9 [] false w args ∧ laidMetH Tryz.prog Rows.thicknessChecksRow.laid w) ∧ sizedMet enc Tryz.prog Tryz.f9 (OpenSpec.ofChange Rows.thicknessChecksSpec) false w args)
      (Rows.thicknessChecksSpec.post enc Tryz.prog Tryz.f9 false true false false) := by
  refine returns_and_shaped (C := Tryz.checked) (X := fun w _ => laidMetH Tryz.prog Rows.thicknessChecksRow.laid w) (fun _ _ _ hh h => h.of_heap hh) own started (by kernel_rfl) Tryz.func9
    (ChangeSpec.witness_shaped (enc := enc) (C := Tryz.checked) (os := os) (X := fun w _ => laidMetH Tryz.prog Rows.thicknessChecksRow.laid w) false (World.doorLaid Tryz.prog 62 os)
      #[.agg #[.int .u8 0, .int .i8 0, .int .i8 0, .bool false, .int .i8 0, .int .i8 0, .int .i8 0, .int .i8 0, .int .i8 0, .int .i8 0, .bool false, .int .i8 0, .int .i8 0, .int .i8 0, .int .i8 0, .int .i8 0, .int .i8 0, .bool false, .bool false, .int .i8 0], .int .u8 0, .int .u8 0]
      8 rfl (World.shaped_of_RefB (by kernel_rfl) (by kernel_rfl)) (by kernel_rfl) (by kernel_rfl) (by kernel_rfl) (door_met os _)) ?_
  intro W base args ds gs before hval0 hW hL hsh
  have hval : ∀ (j : Nat) t v, Tryz.f9.params[j]? = some t → args[j]? = some v → Value.okWide Tryz.prog W .any base t v := hval0
  have hgd := good_of (by simp [Rows.thicknessChecksRow]) (by kernel_rfl) hL hsh
  have hW' := hW
  obtain ⟨p, q, hA0, hV, rfl, _, _⟩ := hW
  have hA : DataW.TrodAll enc Tryz.prog W 0 (fun _ => true) true Tryz.f9.params.toList args.toList ds p := hA0
  rw [Tryz.params9] at hA hval
  obtain ⟨v0, v1, v2, d0, d1, d2, p0, p1, p2, rfl, rfl, _, _, _, _⟩ := trodAll_three hA
  obtain ⟨kz, s0, s1, half, a0, a1, a2, a3, a4, a5, ah, b0, b1, b2, b3, b4, b5, bh, even, add, rfl, hkz, hs0, hs1, ha, hb, hadd⟩ := open_plan (hval 0 _ v0 rfl rfl)
  obtain ⟨n1, rfl, hn1⟩ := open_u8 (hval 1 _ v1 rfl rfl)
  obtain ⟨n2, rfl, hn2⟩ := open_u8 (hval 2 _ v2 rfl rfl)
  clear hA0 hval0 hA hval
  refine (checks_all W kz s0 s1 half a0 a1 a2 a3 a4 a5 ah b0 b1 b2 b3 b4 b5 bh even add n1 n2  hn1 hn2 hkz.1 hkz.2 hs0 hs1 ha hb hadd hgd).mono ?_
  rintro e W' ⟨v, rfl, rfl, hbel⟩
  exact ⟨_, rfl, post_true laidOut hW' rfl boolT rfl (by kernel_rfl) rfl hbel⟩

theorem thicknessChecks_holds : Rows.ThicknessChecksSaid :=
  OpenClaim.holds_of_wide 9 Tryz.f9 rfl rfl rfl rfl rfl rfl rfl ⟨rfl, rfl, rfl, rfl, rfl⟩ rfl rfl rfl rfl rfl (by kernel_rfl) Tryz.func9 (by kernel_rfl)
    (of_decide_eq_true (by kernel_rfl)) (by unfold Func.isWrapper; first | (rw [if_pos (by decide +kernel)]; kernel_rfl) | (rw [if_neg (by decide +kernel)]; exact ⟨rfl, rfl⟩))
    (fun os started H enc _ => thicknessChecks_lifted os started H enc)

theorem thicknessChecks_card : Rows.ThicknessChecksCardSaid :=
  Claim7.holds_tied_plain_at .later [] [.data, .data, .data, .sentinel, .sentinel] true Rows.thicknessChecksCard.stood.harness true
    thicknessChecks_holds (fun _ h => by cases h) (by kernel_rfl) (fun _ h => by cases h) thicknessChecks_row_tie rfl ⟨rfl, rfl⟩ (by kernel_rfl) rfl
    (fun f fn hf hfn => by
      obtain rfl : f = 9 := Option.some.inj ((show Tryz.prog.funcNamed "klippe/klippelaw38.ThicknessChecks" = some 9 by kernel_rfl).symm.trans hf) |>.symm
      obtain rfl : fn = Tryz.f9 := (Option.some.inj (Tryz.func9.symm.trans hfn)).symm
      exact ⟨by kernel_rfl, fun j t ht => by
        rw [Tryz.params9] at ht
        have hm : t ∈ [32, 5, 5] := by simpa using Array.mem_of_getElem? ht
        have hall : ([32, 5, 5].all fun u => !Tryz.prog.wantsStandIn u) = true := by kernel_rfl
        exact (show Tryz.prog.wantsStandIn t = false by simpa using List.all_eq_true.1 hall t hm)⟩)
    (by kernel_rfl)
#print axioms thicknessChecks_card
end Go.Proofs.YtjfjkiibmfgplaaGreatDoor
