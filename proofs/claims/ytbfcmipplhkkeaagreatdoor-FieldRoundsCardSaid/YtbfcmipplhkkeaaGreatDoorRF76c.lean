import Derived.Test.YtbfcmipplhkkeaaGreatDoorRF76
import Derived.Test.YtbfcmipplhkkeaaGreatDoorRRI
import Derived.Test.YtbfcmipplhkkeaaGreatDoorCards
import Derived.Test.YtbfcmipplhkkeaaGreatDoorTie
import Derived.SevenTiedAt
/- The tied card of klippelaw13.FieldRounds: for any described mesh with a field, and any small number, all ends of level lines have the number as their value, and at each one that is not on the border of the sheet as many lines begin as end. Without a condition. -/
set_option maxHeartbeats 4000000
set_option maxRecDepth 100000
namespace Go.Proofs.YtbfcmipplhkkeaaGreatDoor
open Go Go.ChangeShapes Go.WideShapes Go.ChangeAt Go.RowKit Go.Lib
theorem fieldRounds_lifted (os : Os) (started : os.Started) (H : Type) (enc : TypeId × Value -> H) :
 ReturnsInHanded {} Tryz.checked os 3 .any (fun w args => (Rows.fieldRoundsSpec.pre enc Tryz.prog Tryz.f3 [] false w args /\ laidMetH Tryz.prog Rows.fieldRoundsRow.laid w) /\ sizedMet enc Tryz.prog Tryz.f3 (OpenSpec.ofChange Rows.fieldRoundsSpec) false w args)
  (Rows.fieldRoundsSpec.post enc Tryz.prog Tryz.f3 false true false false) := by
 refine returns_and_shaped (C := Tryz.checked) (X := fun w _ => laidMetH Tryz.prog Rows.fieldRoundsRow.laid w) (fun _ _ _ hh h => h.of_heap hh) own started (by kernel_rfl) Tryz.func3
  (ChangeSpec.witness_shaped (enc := enc) (C := Tryz.checked) (os := os) (X := fun w _ => laidMetH Tryz.prog Rows.fieldRoundsRow.laid w) false (World.doorLaid Tryz.prog 62 os)
    #[.agg #[.int .u8 0, .int .i8 0, .int .i8 0, .bool false, .int .i8 0, .int .i8 0, .int .i8 0, .int .i8 0, .int .i8 0, .int .i8 0, .bool false, .int .i8 0, .int .i8 0, .int .i8 0, .int .i8 0, .int .i8 0, .int .i8 0, .bool false], .int .i8 0]
    8 rfl (World.shaped_of_RefB (by kernel_rfl) (by kernel_rfl)) (by kernel_rfl) (by kernel_rfl) (by kernel_rfl) (door_met os _)) ?_
 intro W base args ds gs before hval0 hW hL hsh;have hval : ∀ (j : Nat) t v, Tryz.f3.params[j]? = some t -> args[j]? = some v -> Value.okWide Tryz.prog W .any base t v := hval0;have hgd := good_of (by simp [Rows.fieldRoundsRow]) (by kernel_rfl) hL hsh;have hW' := hW;obtain ⟨p, q, hA0, hV, rfl, _, _⟩ := hW;have hA : DataW.TrodAll enc Tryz.prog W 0 (fun _ => true) true Tryz.f3.params.toList args.toList ds p := hA0;rw [Tryz.params3] at hA hval;obtain ⟨v0, v1, d0, d1, p0, p1, rfl, rfl, _, _, _⟩ := trodAll_two hA;obtain ⟨kz, s0, s1, half, a0, a1, a2, a3, a4, a5, ah, b0, b1, b2, b3, b4, b5, bh, rfl, hkz, hs0, hs1, ha, hb⟩ := open_input (hval 0 _ v0 rfl rfl);obtain ⟨n1, rfl, hn1⟩ := open_i8 (hval 1 _ v1 rfl rfl);clear hA0 hval0 hA hval;refine (fieldRounds_all W kz s0 s1 half a0 a1 a2 a3 a4 a5 ah b0 b1 b2 b3 b4 b5 bh n1 hkz.1 hkz.2 hs0 hs1 ha  hn1 hgd).mono ?_;rintro e W' ⟨v, rfl, rfl, hbel⟩;exact ⟨_, rfl, post_true laidOut hW' rfl boolT rfl (by kernel_rfl) rfl hbel⟩
theorem and2b {a b : Bool} (h1 : a = true) (h2 : b = true) : (a && b) = true := by rw [h1, h2]; rfl
theorem fieldRounds_facts : joinedFacts Tryz.checked.prog 3 Tryz.f3 Rows.fieldRoundsSpec Rows.fieldRoundsRow = true := by
 unfold joinedFacts;repeat' (with_reducible refine and2b ?_ ?_)
 all_goals (as_aux_lemma => kernel_rfl)
theorem fieldRounds_named : Tryz.checked.prog.funcNamed Rows.fieldRoundsRow.func = some 3 := by kernel_rfl
theorem fieldRounds_holds : Rows.FieldRoundsSaid :=
 OpenClaim.holds_of_wide 3 Tryz.f3 rfl rfl rfl rfl rfl rfl rfl ⟨rfl, rfl, rfl, rfl, rfl⟩ rfl rfl rfl rfl rfl fieldRounds_named Tryz.func3 fieldRounds_facts
  (of_decide_eq_true (by as_aux_lemma => kernel_rfl)) (by unfold Func.isWrapper; first | (rw [if_pos (by decide +kernel)]; kernel_rfl) | (rw [if_neg (by decide +kernel)]; exact ⟨rfl, rfl⟩))
  (fun os started H enc _ => fieldRounds_lifted os started H enc)
theorem fieldRounds_card : Rows.FieldRoundsCardSaid :=
 Claim7.holds_tied_plain_at .later [] [.data, .data, .data, .sentinel, .sentinel] true Rows.fieldRoundsCard.stood.harness true
  fieldRounds_holds (fun _ h => by cases h) (by as_aux_lemma => kernel_rfl) (fun _ h => by cases h) fieldRounds_row_tie rfl ⟨rfl, rfl⟩ (by as_aux_lemma => kernel_rfl) rfl
  (fun f fn hf hfn => by
    obtain rfl : f = 3 := Option.some.inj ((show Tryz.prog.funcNamed "klippe/klippelaw13.FieldRounds" = some 3 by kernel_rfl).symm.trans hf) |>.symm;obtain rfl : fn = Tryz.f3 := (Option.some.inj (Tryz.func3.symm.trans hfn)).symm;exact ⟨by as_aux_lemma => kernel_rfl, fun j t ht => by
     rw [Tryz.params3] at ht;have hm : t ∈ [30, 22] := by simpa using Array.mem_of_getElem? ht
     have hall : ([30, 22].all fun u => !Tryz.prog.wantsStandIn u) = true := by kernel_rfl
     exact (show Tryz.prog.wantsStandIn t = false by simpa using List.all_eq_true.1 hall t hm)⟩)
  (by as_aux_lemma => kernel_rfl)
#print axioms fieldRounds_card
end Go.Proofs.YtbfcmipplhkkeaaGreatDoor
