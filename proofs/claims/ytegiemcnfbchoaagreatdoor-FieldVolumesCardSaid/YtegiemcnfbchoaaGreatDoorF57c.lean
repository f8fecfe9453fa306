import Derived.Test.YtegiemcnfbchoaaGreatDoorF57
import Derived.Test.YtegiemcnfbchoaaGreatDoorRI
import Derived.Test.YtegiemcnfbchoaaGreatDoorCards
import Derived.Test.YtegiemcnfbchoaaGreatDoorTie
import Derived.SevenTiedAt
/- The tied card of klippelaw13.FieldVolumes: for any described mesh with two fields, and any number of at most 40 bytes, Volume and Excess return the integrals, or ErrNumber. Without a condition. -/
set_option maxHeartbeats 4000000
set_option maxRecDepth 100000
namespace Go.Proofs.YtegiemcnfbchoaaGreatDoor
open Go Go.ChangeShapes Go.WideShapes Go.ChangeAt Go.RowKit Go.Lib
theorem fieldVolumes_lifted (os : Os) (started : os.Started) (H : Type) (enc : TypeId × Value -> H) :
 ReturnsInHanded {} Tryz.checked os 4 .any (fun w args => (Rows.fieldVolumesSpec.pre enc Tryz.prog Tryz.f4 [] false w args /\ laidMetH Tryz.prog Rows.fieldVolumesRow.laid w) /\ sizedMet enc Tryz.prog Tryz.f4 (OpenSpec.ofChange Rows.fieldVolumesSpec) false w args)
  (Rows.fieldVolumesSpec.post enc Tryz.prog Tryz.f4 false true false false) := by
 refine returns_and_shaped (C := Tryz.checked) (X := fun w _ => laidMetH Tryz.prog Rows.fieldVolumesRow.laid w) (fun _ _ _ hh h => h.of_heap hh) own started (by kernel_rfl) Tryz.func4
  (ChangeSpec.witness_shaped (enc := enc) (C := Tryz.checked) (os := os) (X := fun w _ => laidMetH Tryz.prog Rows.fieldVolumesRow.laid w) false (World.doorLaid Tryz.prog 62 os)
    #[.agg #[.int .u8 0, .int .i8 0, .int .i8 0, .bool false, .int .i8 0, .int .i8 0, .int .i8 0, .int .i8 0, .int .i8 0, .int .i8 0, .bool false, .int .i8 0, .int .i8 0, .int .i8 0, .int .i8 0, .int .i8 0, .int .i8 0, .bool false], .string ⟨#[]⟩]
    8 rfl (World.shaped_of_RefB (by kernel_rfl) (by kernel_rfl)) (by kernel_rfl) (by kernel_rfl) (by kernel_rfl) (door_met os _)) ?_
 intro W base args ds gs before hval0 hW hL hsh;have hval : ∀ (j : Nat) t v, Tryz.f4.params[j]? = some t -> args[j]? = some v -> Value.okWide Tryz.prog W .any base t v := hval0;have hgd := good_of (by simp [Rows.fieldVolumesRow]) (by kernel_rfl) hL hsh;have hW' := hW;obtain ⟨p, q, hA0, hV, rfl, _, _⟩ := hW;have hA : DataW.TrodAll enc Tryz.prog W 0 (fun _ => true) true Tryz.f4.params.toList args.toList ds p := hA0;rw [Tryz.params4] at hA hval;obtain ⟨v0, v1, d0, d1, p0, p1, rfl, rfl, _, _, _⟩ := trodAll_two hA;obtain ⟨kz, s0, s1, half, a0, a1, a2, a3, a4, a5, ah, b0, b1, b2, b3, b4, b5, bh, rfl, hkz, hs0, hs1, ha, hb⟩ := open_input (hval 0 _ v0 rfl rfl);obtain ⟨t1, rfl, ht1⟩ := open_rat (hval 1 _ v1 rfl rfl);clear hA0 hval0 hA hval;refine (fieldVolumes_all W kz s0 s1 half a0 a1 a2 a3 a4 a5 ah b0 b1 b2 b3 b4 b5 bh t1 hkz.1 hkz.2 hs0 hs1 ha hb   hgd).mono ?_;rintro e W' ⟨v, rfl, rfl, hbel⟩;exact ⟨_, rfl, post_true laidOut hW' rfl boolT rfl (by kernel_rfl) rfl hbel⟩
theorem and2b {a b : Bool} (h1 : a = true) (h2 : b = true) : (a && b) = true := by rw [h1, h2]; rfl
theorem fieldVolumes_facts : joinedFacts Tryz.checked.prog 4 Tryz.f4 Rows.fieldVolumesSpec Rows.fieldVolumesRow = true := by
 unfold joinedFacts;repeat' (with_reducible refine and2b ?_ ?_)
 all_goals (as_aux_lemma => kernel_rfl)
theorem fieldVolumes_named : Tryz.checked.prog.funcNamed Rows.fieldVolumesRow.func = some 4 := by kernel_rfl
theorem fieldVolumes_holds : Rows.FieldVolumesSaid :=
 OpenClaim.holds_of_wide 4 Tryz.f4 rfl rfl rfl rfl rfl rfl rfl ⟨rfl, rfl, rfl, rfl, rfl⟩ rfl rfl rfl rfl rfl fieldVolumes_named Tryz.func4 fieldVolumes_facts
  (of_decide_eq_true (by as_aux_lemma => kernel_rfl)) (by unfold Func.isWrapper; first | (rw [if_pos (by decide +kernel)]; kernel_rfl) | (rw [if_neg (by decide +kernel)]; exact ⟨rfl, rfl⟩))
  (fun os started H enc _ => fieldVolumes_lifted os started H enc)
theorem fieldVolumes_card : Rows.FieldVolumesCardSaid :=
 Claim7.holds_tied_plain_at .later [] [.data, .data, .data, .sentinel, .sentinel] true Rows.fieldVolumesCard.stood.harness true
  fieldVolumes_holds (fun _ h => by cases h) (by as_aux_lemma => kernel_rfl) (fun _ h => by cases h) fieldVolumes_row_tie rfl ⟨rfl, rfl⟩ (by as_aux_lemma => kernel_rfl) rfl
  (fun f fn hf hfn => by
    obtain rfl : f = 4 := Option.some.inj ((show Tryz.prog.funcNamed "klippe/klippelaw13.FieldVolumes" = some 4 by kernel_rfl).symm.trans hf) |>.symm;obtain rfl : fn = Tryz.f4 := (Option.some.inj (Tryz.func4.symm.trans hfn)).symm;exact ⟨by as_aux_lemma => kernel_rfl, fun j t ht => by
     rw [Tryz.params4] at ht;have hm : t ∈ [30, 31] := by simpa using Array.mem_of_getElem? ht
     have hall : ([30, 31].all fun u => !Tryz.prog.wantsStandIn u) = true := by kernel_rfl
     exact (show Tryz.prog.wantsStandIn t = false by simpa using List.all_eq_true.1 hall t hm)⟩)
  (by as_aux_lemma => kernel_rfl)
#print axioms fieldVolumes_card
end Go.Proofs.YtegiemcnfbchoaaGreatDoor
