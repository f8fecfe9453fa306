import Derived.Test.YtegiemcnfbchoaaGreatDoorPF64
import Derived.Test.YtegiemcnfbchoaaGreatDoorPRI
import Derived.Test.YtegiemcnfbchoaaGreatDoorCards
import Derived.Test.YtegiemcnfbchoaaGreatDoorTie
import Derived.SevenTiedAt
/- The tied card of klippelaw13.FieldProfiles: for any described mesh with a field, and any two places with numbers of at most 40 bytes, Profile returns the knots, or the first error. Without a condition. -/
set_option maxHeartbeats 4000000
set_option maxRecDepth 100000
namespace Go.Proofs.YtegiemcnfbchoaaGreatDoor
open Go Go.ChangeShapes Go.WideShapes Go.ChangeAt Go.RowKit Go.Lib
theorem fieldProfiles_lifted (os : Os) (started : os.Started) (H : Type) (enc : TypeId × Value -> H) :
 ReturnsInHanded {} Tryz.checked os 3 .any (fun w args => (Rows.fieldProfilesSpec.pre enc Tryz.prog Tryz.f3 [] false w args /\ laidMetH Tryz.prog Rows.fieldProfilesRow.laid w) /\ sizedMet enc Tryz.prog Tryz.f3 (OpenSpec.ofChange Rows.fieldProfilesSpec) false w args)
  (Rows.fieldProfilesSpec.post enc Tryz.prog Tryz.f3 false true false false) := by
 refine returns_and_shaped (C := Tryz.checked) (X := fun w _ => laidMetH Tryz.prog Rows.fieldProfilesRow.laid w) (fun _ _ _ hh h => h.of_heap hh) own started (by kernel_rfl) Tryz.func3
  (ChangeSpec.witness_shaped (enc := enc) (C := Tryz.checked) (os := os) (X := fun w _ => laidMetH Tryz.prog Rows.fieldProfilesRow.laid w) false (World.doorLaid Tryz.prog 62 os)
    #[.agg #[.int .u8 0, .int .i8 0, .int .i8 0, .bool false, .int .i8 0, .int .i8 0, .int .i8 0, .int .i8 0, .int .i8 0, .int .i8 0, .bool false, .int .i8 0, .int .i8 0, .int .i8 0, .int .i8 0, .int .i8 0, .int .i8 0, .bool false], .agg #[.string ⟨#[]⟩, .string ⟨#[]⟩], .agg #[.string ⟨#[]⟩, .string ⟨#[]⟩]]
    8 rfl (World.shaped_of_RefB (by kernel_rfl) (by kernel_rfl)) (by kernel_rfl) (by kernel_rfl) (by kernel_rfl) (door_met os _)) ?_
 intro W base args ds gs before hval0 hW hL hsh;have hval : ∀ (j : Nat) t v, Tryz.f3.params[j]? = some t -> args[j]? = some v -> Value.okWide Tryz.prog W .any base t v := hval0;have hgd := good_of (by simp [Rows.fieldProfilesRow]) (by kernel_rfl) hL hsh;have hW' := hW;obtain ⟨p, q, hA0, hV, rfl, _, _⟩ := hW;have hA : DataW.TrodAll enc Tryz.prog W 0 (fun _ => true) true Tryz.f3.params.toList args.toList ds p := hA0;rw [Tryz.params3] at hA hval;obtain ⟨v0, v1, v2, d0, d1, d2, p0, p1, p2, rfl, rfl, _, _, _, _⟩ := trodAll_three hA;obtain ⟨kz, s0, s1, half, a0, a1, a2, a3, a4, a5, ah, b0, b1, b2, b3, b4, b5, bh, rfl, hkz, hs0, hs1, ha, hb⟩ := open_input (hval 0 _ v0 rfl rfl);obtain ⟨x1, y1, rfl, hx1, hy1⟩ := open_point (hval 1 _ v1 rfl rfl);obtain ⟨x2, y2, rfl, hx2, hy2⟩ := open_point (hval 2 _ v2 rfl rfl);clear hA0 hval0 hA hval;refine (fieldProfiles_all W kz s0 s1 half a0 a1 a2 a3 a4 a5 ah b0 b1 b2 b3 b4 b5 bh x1 y1 x2 y2 hkz.1 hkz.2 hs0 hs1 ha    hgd).mono ?_;rintro e W' ⟨v, rfl, rfl, hbel⟩;exact ⟨_, rfl, post_true laidOut hW' rfl boolT rfl (by kernel_rfl) rfl hbel⟩
theorem and2b {a b : Bool} (h1 : a = true) (h2 : b = true) : (a && b) = true := by rw [h1, h2]; rfl
theorem fieldProfiles_facts : joinedFacts Tryz.checked.prog 3 Tryz.f3 Rows.fieldProfilesSpec Rows.fieldProfilesRow = true := by
 unfold joinedFacts;repeat' (with_reducible refine and2b ?_ ?_)
 all_goals (as_aux_lemma => kernel_rfl)
theorem fieldProfiles_named : Tryz.checked.prog.funcNamed Rows.fieldProfilesRow.func = some 3 := by kernel_rfl
theorem fieldProfiles_holds : Rows.FieldProfilesSaid :=
 OpenClaim.holds_of_wide 3 Tryz.f3 rfl rfl rfl rfl rfl rfl rfl ⟨rfl, rfl, rfl, rfl, rfl⟩ rfl rfl rfl rfl rfl fieldProfiles_named Tryz.func3 fieldProfiles_facts
  (of_decide_eq_true (by as_aux_lemma => kernel_rfl)) (by unfold Func.isWrapper; first | (rw [if_pos (by decide +kernel)]; kernel_rfl) | (rw [if_neg (by decide +kernel)]; exact ⟨rfl, rfl⟩))
  (fun os started H enc _ => fieldProfiles_lifted os started H enc)
theorem fieldProfiles_card : Rows.FieldProfilesCardSaid :=
 Claim7.holds_tied_plain_at .later [] [.data, .data, .data, .sentinel, .sentinel] true Rows.fieldProfilesCard.stood.harness true
  fieldProfiles_holds (fun _ h => by cases h) (by as_aux_lemma => kernel_rfl) (fun _ h => by cases h) fieldProfiles_row_tie rfl ⟨rfl, rfl⟩ (by as_aux_lemma => kernel_rfl) rfl
  (fun f fn hf hfn => by
    obtain rfl : f = 3 := Option.some.inj ((show Tryz.prog.funcNamed "klippe/klippelaw13.FieldProfiles" = some 3 by kernel_rfl).symm.trans hf) |>.symm;obtain rfl : fn = Tryz.f3 := (Option.some.inj (Tryz.func3.symm.trans hfn)).symm;exact ⟨by as_aux_lemma => kernel_rfl, fun j t ht => by
     rw [Tryz.params3] at ht;have hm : t ∈ [30, 33, 33] := by simpa using Array.mem_of_getElem? ht
     have hall : ([30, 33, 33].all fun u => !Tryz.prog.wantsStandIn u) = true := by kernel_rfl
     exact (show Tryz.prog.wantsStandIn t = false by simpa using List.all_eq_true.1 hall t hm)⟩)
  (by as_aux_lemma => kernel_rfl)
#print axioms fieldProfiles_card
end Go.Proofs.YtegiemcnfbchoaaGreatDoor
