/- The tied card of klippelaw38.ThicknessContours: for any plan and any levels with numbers of at most 20 bytes and a count up to 6 (or wrong), Contours returns the level lines of its lower surface, and Dips the squared tangents, or the first error: the law returns true at every input, and the arguments read as before. Without a condition. -/
import Derived.Test.YtjfjkiibmfgplaaGreatDoorE11
import Derived.Test.YtjfjkiibmfgplaaGreatDoorR4
import Derived.Test.YtjfjkiibmfgplaaGreatDoorCards
import Derived.Test.YtjfjkiibmfgplaaGreatDoorTie
import Derived.SevenTiedAt
namespace Go.Proofs.YtjfjkiibmfgplaaGreatDoor
open Go Go.ChangeShapes Go.WideShapes Go.ChangeAt Go.RowKit Go.Lib

set_option maxRecDepth 100000 in
theorem thicknessContours_lifted (os : Os) (started : os.Started) (H : Type) (enc : TypeId × Value → H) :
    ReturnsInHanded {} Tryz.checked os 8 .any (fun w args => (Rows.thicknessContoursSpec.pre enc Tryz.prog Tryz.f8 [] false w args ∧ laidMetH Tryz.prog Rows.thicknessContoursRow.laid w) ∧ sizedMet enc Tryz.prog Tryz.f8 (OpenSpec.ofChange Rows.thicknessContoursSpec) false w args)
      (Rows.thicknessContoursSpec.post enc Tryz.prog Tryz.f8 false true false false) := by
  refine returns_and_shaped (C := Tryz.checked) (X := fun w _ => laidMetH Tryz.prog Rows.thicknessContoursRow.laid w) (fun _ _ _ hh h => h.of_heap hh) own started (by kernel_rfl) Tryz.func8
    (ChangeSpec.witness_shaped (enc := enc) (C := Tryz.checked) (os := os) (X := fun w _ => laidMetH Tryz.prog Rows.thicknessContoursRow.laid w) false (World.doorLaid Tryz.prog 62 os)
      #[.agg #[.int .u8 0, .int .i8 0, .int .i8 0, .bool false, .int .i8 0, .int .i8 0, .int .i8 0, .int .i8 0, .int .i8 0, .int .i8 0, .bool false, .int .i8 0, .int .i8 0, .int .i8 0, .int .i8 0, .int .i8 0, .int .i8 0, .bool false, .bool false, .int .i8 0], .agg #[.string ⟨#[]⟩, .string ⟨#[]⟩, .int .i64 0]]
      8 rfl (World.shaped_of_RefB (by kernel_rfl) (by kernel_rfl)) (by kernel_rfl) (by kernel_rfl) (by kernel_rfl) (door_met os _)) ?_
  intro W base args ds gs before hval0 hW hL hsh
  have hval : ∀ (j : Nat) t v, Tryz.f8.params[j]? = some t → args[j]? = some v → Value.okWide Tryz.prog W .any base t v := hval0
  have hgd := good_of (by simp [Rows.thicknessContoursRow]) (by kernel_rfl) hL hsh
  have hW' := hW
  obtain ⟨p, q, hA0, hV, rfl, _, _⟩ := hW
  have hA : DataW.TrodAll enc Tryz.prog W 0 (fun _ => true) true Tryz.f8.params.toList args.toList ds p := hA0
  rw [Tryz.params8] at hA hval
  obtain ⟨v0, v1, d0, d1, p0, p1, rfl, rfl, _, _, _⟩ := trodAll_two hA
  obtain ⟨kz, s0, s1, half, a0, a1, a2, a3, a4, a5, ah, b0, b1, b2, b3, b4, b5, bh, even, add, rfl, hkz, hs0, hs1, ha, hb, hadd⟩ := open_plan (hval 0 _ v0 rfl rfl)
  obtain ⟨x1, y1, n1, rfl, hx1, hy1, hn1⟩ := open_levels (hval 1 _ v1 rfl rfl)
  clear hA0 hval0 hA hval
  refine (contours_all W kz s0 s1 half a0 a1 a2 a3 a4 a5 ah b0 b1 b2 b3 b4 b5 bh even add x1 y1 n1  hx1 hy1 hn1 hkz.1 hkz.2 hs0 hs1 ha hb hadd hgd).mono ?_
  rintro e W' ⟨v, rfl, rfl, hbel⟩
  exact ⟨_, rfl, post_true laidOut hW' rfl boolT rfl (by kernel_rfl) rfl hbel⟩

theorem thicknessContours_holds : Rows.ThicknessContoursSaid :=
  OpenClaim.holds_of_wide 8 Tryz.f8 rfl rfl rfl rfl rfl rfl rfl ⟨rfl, rfl, rfl, rfl, rfl⟩ rfl rfl rfl rfl rfl (by kernel_rfl) Tryz.func8 (by kernel_rfl)
    (of_decide_eq_true (by kernel_rfl)) (by unfold Func.isWrapper; first | (rw [if_pos (by decide +kernel)]; kernel_rfl) | (rw [if_neg (by decide +kernel)]; exact ⟨rfl, rfl⟩))
    (fun os started H enc _ => thicknessContours_lifted os started H enc)

theorem thicknessContours_card : Rows.ThicknessContoursCardSaid :=
  Claim7.holds_tied_plain_at .later [] [.data, .data, .data, .sentinel, .sentinel] true Rows.thicknessContoursCard.stood.harness true
    thicknessContours_holds (fun _ h => by cases h) (by kernel_rfl) (fun _ h => by cases h) thicknessContours_row_tie rfl ⟨rfl, rfl⟩ (by kernel_rfl) rfl
    (fun f fn hf hfn => by
      obtain rfl : f = 8 := Option.some.inj ((show Tryz.prog.funcNamed "klippe/klippelaw38.ThicknessContours" = some 8 by kernel_rfl).symm.trans hf) |>.symm
      obtain rfl : fn = Tryz.f8 := (Option.some.inj (Tryz.func8.symm.trans hfn)).symm
      exact ⟨by kernel_rfl, fun j t ht => by
        rw [Tryz.params8] at ht
        have hm : t ∈ [32, 93] := by simpa using Array.mem_of_getElem? ht
        have hall : ([32, 93].all fun u => !Tryz.prog.wantsStandIn u) = true := by kernel_rfl
        exact (show Tryz.prog.wantsStandIn t = false by simpa using List.all_eq_true.1 hall t hm)⟩)
    (by kernel_rfl)
#print axioms thicknessContours_card
end Go.Proofs.YtjfjkiibmfgplaaGreatDoor
