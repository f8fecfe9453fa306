import Derived.Test.YtgdpoankaojklaaGreatDoorX50b
import Derived.Test.YtgdpoankaojklaaGreatDoorCards
import Derived.Test.YtgdpoankaojklaaGreatDoorTie
import Derived.SevenTiedAt
/- The tied card of klippelaw28.StackEquals: for any two planned deposits, Equal compares all fields. Without a condition. -/
set_option maxHeartbeats 4000000
set_option maxRecDepth 100000
namespace Go.Proofs.YtgdpoankaojklaaGreatDoor
open Go Go.ChangeShapes Go.WideShapes Go.ChangeAt Go.RowKit Go.Lib
theorem stackEquals_lifted (os : Os) (started : os.Started) (H : Type) (enc : TypeId × Value -> H) :
 ReturnsInHanded {} Tryz.checked os 3 .any (fun w args => (Rows.stackEqualsSpec.pre enc Tryz.prog Tryz.f3 [] false w args /\ laidMetH Tryz.prog Rows.stackEqualsRow.laid w) /\ sizedMet enc Tryz.prog Tryz.f3 (OpenSpec.ofChange Rows.stackEqualsSpec) false w args)
  (Rows.stackEqualsSpec.post enc Tryz.prog Tryz.f3 false true false false) := by
 refine returns_and_shaped (C := Tryz.checked) (X := fun w _ => laidMetH Tryz.prog Rows.stackEqualsRow.laid w) (fun _ _ _ hh h => h.of_heap hh) own started (by kernel_rfl) Tryz.func3
  (ChangeSpec.witness_shaped (enc := enc) (C := Tryz.checked) (os := os) (X := fun w _ => laidMetH Tryz.prog Rows.stackEqualsRow.laid w) false (World.doorLaid Tryz.prog 62 os)
    #[.agg #[.int .u8 0, .int .i8 0, .int .i8 0, .bool false, .int .i8 0, .int .i8 0, .int .i8 0, .int .i8 0, .int .i8 0, .int .i8 0, .bool false, .slice none 0 0], .agg #[.int .u8 0, .int .i8 0, .int .i8 0, .bool false, .int .i8 0, .int .i8 0, .int .i8 0, .int .i8 0, .int .i8 0, .int .i8 0, .bool false, .slice none 0 0]]
    8 rfl (World.shaped_of_RefB (by kernel_rfl) (by kernel_rfl)) (by kernel_rfl) (by kernel_rfl) (by kernel_rfl) (door_met os _)) ?_
 intro W base args ds gs before hval0 hW hL hsh;have hval : ∀ (j : Nat) t v, Tryz.f3.params[j]? = some t -> args[j]? = some v -> Value.okWide Tryz.prog W .any base t v := hval0;have hgd := good_of (by simp [Rows.stackEqualsRow]) (by kernel_rfl) hL hsh;have hW' := hW;obtain ⟨p, q, hA0, hV, rfl, _, _⟩ := hW;have hA : DataW.TrodAll enc Tryz.prog W 0 (fun _ => true) true Tryz.f3.params.toList args.toList ds p := hA0;rw [Tryz.params3] at hA hval;obtain ⟨v0, v1, d0, d1, p0, p1, rfl, rfl, _, hT0, hT1⟩ := trodAll_two hA;obtain ⟨kz0, s0, r0, half0, a0, b0, c0, d0, e0, f0, ah0, vh0, H0, rfl, hkz0, hs0, hr0, ha0, hH0⟩ := open_plan28 (hval 0 _ v0 rfl rfl) hT0;obtain ⟨kz1, s1, r1, half1, a1, b1, c1, d1, e1, f1, ah1, vh1, H1, rfl, hkz1, hs1, hr1, ha1, hH1⟩ := open_plan28 (hval 1 _ v1 rfl rfl) hT1;clear hA0 hval0 hA hval;refine (stackEquals_all W kz0 s0 r0 half0 a0 b0 c0 d0 e0 f0 ah0 vh0 H0 kz1 s1 r1 half1 a1 b1 c1 d1 e1 f1 ah1 vh1 H1 hkz0.1 hkz0.2 hs0 hr0 ha0 hH0 hkz1.1 hkz1.2 hs1 hr1 ha1 hH1 hgd).mono ?_;rintro e W' ⟨v, rfl, rfl, hbel⟩;exact ⟨_, rfl, post_true laidOut hW' rfl boolT rfl (by kernel_rfl) rfl hbel⟩
theorem and2b {a b : Bool} (h1 : a = true) (h2 : b = true) : (a && b) = true := by rw [h1, h2]; rfl
theorem stackEquals_facts : joinedFacts Tryz.checked.prog 3 Tryz.f3 Rows.stackEqualsSpec Rows.stackEqualsRow = true := by
 unfold joinedFacts;repeat' (with_reducible refine and2b ?_ ?_)
 all_goals (as_aux_lemma => kernel_rfl)
theorem stackEquals_named : Tryz.checked.prog.funcNamed Rows.stackEqualsRow.func = some 3 := by kernel_rfl
theorem stackEquals_holds : Rows.StackEqualsSaid :=
 OpenClaim.holds_of_wide 3 Tryz.f3 rfl rfl rfl rfl rfl rfl rfl ⟨rfl, rfl, rfl, rfl, rfl⟩ rfl rfl rfl rfl rfl stackEquals_named Tryz.func3 stackEquals_facts
  (of_decide_eq_true (by as_aux_lemma => kernel_rfl)) (by unfold Func.isWrapper; first | (rw [if_pos (by decide +kernel)]; kernel_rfl) | (rw [if_neg (by decide +kernel)]; exact ⟨rfl, rfl⟩))
  (fun os started H enc _ => stackEquals_lifted os started H enc)
theorem stackEquals_card : Rows.StackEqualsCardSaid :=
 Claim7.holds_tied_plain_at .later [] [.data, .data, .data, .sentinel, .sentinel] true Rows.stackEqualsCard.stood.harness true
  stackEquals_holds (fun _ h => by cases h) (by as_aux_lemma => kernel_rfl) (fun _ h => by cases h) stackEquals_row_tie rfl ⟨rfl, rfl⟩ (by as_aux_lemma => kernel_rfl) rfl
  (fun f fn hf hfn => by
    obtain rfl : f = 3 := Option.some.inj ((show Tryz.prog.funcNamed "klippe/klippelaw28.StackEquals" = some 3 by kernel_rfl).symm.trans hf) |>.symm;obtain rfl : fn = Tryz.f3 := (Option.some.inj (Tryz.func3.symm.trans hfn)).symm;exact ⟨by as_aux_lemma => kernel_rfl, fun j t ht => by
     rw [Tryz.params3] at ht;have hm : t ∈ [31, 31] := by simpa using Array.mem_of_getElem? ht
     have hall : ([31, 31].all fun u => !Tryz.prog.wantsStandIn u) = true := by kernel_rfl
     exact (show Tryz.prog.wantsStandIn t = false by simpa using List.all_eq_true.1 hall t hm)⟩)
  (by as_aux_lemma => kernel_rfl)
#print axioms stackEquals_card
end Go.Proofs.YtgdpoankaojklaaGreatDoor
