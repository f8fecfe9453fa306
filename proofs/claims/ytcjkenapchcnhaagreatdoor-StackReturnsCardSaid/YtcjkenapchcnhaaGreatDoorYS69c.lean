import Derived.Test.YtcjkenapchcnhaaGreatDoorYRH
import Derived.Test.YtcjkenapchcnhaaGreatDoorCards
import Derived.Test.YtcjkenapchcnhaaGreatDoorTie
import Derived.SevenTiedAt
/- The tied card of klippelaw28.StackReturns: for any planned deposit and any heights, removing a unit that was inserted on the highest surface, or on any surface with the thickness 0, gives back the deposit (without the model). Without a condition. -/
set_option maxHeartbeats 4000000
set_option maxRecDepth 100000
namespace Go.Proofs.YtcjkenapchcnhaaGreatDoor
open Go Go.ChangeShapes Go.WideShapes Go.ChangeAt Go.RowKit Go.Lib
theorem stackReturns_lifted (os : Os) (V : os.Started) (H : Type) (enc : TypeId × Value -> H) :
 ReturnsInHanded {} Tryz.checked os 4 .any (fun w args => (Rows.stackReturnsSpec.pre enc Tryz.prog Tryz.f4 [] false w args /\ laidMetH Tryz.prog Rows.stackReturnsRow.laid w) /\ sizedMet enc Tryz.prog Tryz.f4 (OpenSpec.ofChange Rows.stackReturnsSpec) false w args)
  (Rows.stackReturnsSpec.post enc Tryz.prog Tryz.f4 false true false false) := by
 refine ras (C := Tryz.checked) (X := fun w _ => laidMetH Tryz.prog Rows.stackReturnsRow.laid w) (fun _ _ _ hh h => h.of_heap hh) own V (by kernel_rfl) Tryz.func4
  (ChangeSpec.witness_shaped (enc := enc) (C := Tryz.checked) (os := os) (X := fun w _ => laidMetH Tryz.prog Rows.stackReturnsRow.laid w) false (World.doorLaid Tryz.prog 62 os)
    #[.agg #[.int .u8 0, .int .i8 0, .int .i8 0, .bool false, .int .i8 0, .int .i8 0, .int .i8 0, .int .i8 0, .int .i8 0, .int .i8 0, .bool false, .slice none 0 0], .agg #[.int .i8 0, .int .i8 0, .int .i8 0, .int .i8 0, .int .i8 0, .int .i8 0, .bool false], .int .u8 0]
    8 rfl (World.shaped_of_RefB (by kernel_rfl) (by kernel_rfl)) (by kernel_rfl) (by kernel_rfl) (by kernel_rfl) (dmt os _)) ?_
 intro W base args n gs N Y s l A;have Z : ∀ (j : Nat) t v, Tryz.f4.params[j]? = some t -> args[j]? = some v -> Value.okWide Tryz.prog W .any base t v := Y;have G := gof (by simp [Rows.stackReturnsRow]) (by kernel_rfl) l A;have J := s;obtain ⟨p, q, R, hV, rfl, _, _⟩ := s;have hA : DataW.TrodAll enc Tryz.prog W 0 (fun _ => true) true Tryz.f4.params.toList args.toList n p := R;rw [Tryz.params4] at hA Z;obtain ⟨v0, v1, v2, x, d1, d2, p0, p1, p2, rfl, rfl, _, K, _, _⟩ := trodAll_three hA;obtain ⟨z, s0, r0, S, a0, o, c0, x, m, f0, M, y, r, rfl, U, B, D, I, L⟩ := op2 (Z 0 _ v0 rfl rfl) K;obtain ⟨i, g, f, d, c, b, a, rfl, E⟩ := oh7 (Z 1 _ v1 rfl rfl);obtain ⟨k, rfl, O⟩ := ou8 (Z 2 _ v2 rfl rfl);clear R Y hA Z;refine (sRa W z s0 r0 S a0 o c0 x m f0 M y r i g f d c b a k U.1 U.2 B D I L E O.1 O.2 G).mono ?_;rintro e W' ⟨v, rfl, rfl, Q⟩;exact ⟨_, rfl, pd0 lOt J rfl boolT rfl (by kernel_rfl) rfl Q⟩
theorem and2b {a b : Bool} (Z : a = true) (Y : b = true) : (a && b) = true := by rw [Z, Y]; rfl
theorem stackReturns_facts : joinedFacts Tryz.checked.prog 4 Tryz.f4 Rows.stackReturnsSpec Rows.stackReturnsRow = true := by
 unfold joinedFacts;repeat' (with_reducible refine and2b ?_ ?_)
 all_goals (as_aux_lemma => kernel_rfl)
theorem stackReturns_named : Tryz.checked.prog.funcNamed Rows.stackReturnsRow.func = some 4 := by kernel_rfl
theorem stackReturns_holds : Rows.StackReturnsSaid :=
 OpenClaim.holds_of_wide 4 Tryz.f4 rfl rfl rfl rfl rfl rfl rfl ⟨rfl, rfl, rfl, rfl, rfl⟩ rfl rfl rfl rfl rfl stackReturns_named Tryz.func4 stackReturns_facts
  (of_decide_eq_true (by as_aux_lemma => kernel_rfl)) (by unfold Func.isWrapper; first | (rw [if_pos (by decide +kernel)]; kernel_rfl) | (rw [if_neg (by decide +kernel)]; exact ⟨rfl, rfl⟩))
  (fun os started H enc _ => stackReturns_lifted os started H enc)
theorem stackReturns_card : Rows.StackReturnsCardSaid :=
 Claim7.holds_tied_plain_at .later [] [.data, .data, .data, .sentinel, .sentinel] true Rows.stackReturnsCard.stood.harness true
  stackReturns_holds (fun _ h => by cases h) (by as_aux_lemma => kernel_rfl) (fun _ h => by cases h) stackReturns_row_tie rfl ⟨rfl, rfl⟩ (by as_aux_lemma => kernel_rfl) rfl
  (fun f fn hf hfn => by
    obtain rfl : f = 4 := Option.some.inj ((show Tryz.prog.funcNamed "klippe/klippelaw28.StackReturns" = some 4 by kernel_rfl).symm.trans hf) |>.symm;obtain rfl : fn = Tryz.f4 := (Option.some.inj (Tryz.func4.symm.trans hfn)).symm;exact ⟨by as_aux_lemma => kernel_rfl, fun j t ht => by
     rw [Tryz.params4] at ht;have Y : t ∈ [31, 28, 5] := by simpa using Array.mem_of_getElem? ht
     have Z : ([31, 28, 5].all fun u => !Tryz.prog.wantsStandIn u) = true := by kernel_rfl
     exact (show Tryz.prog.wantsStandIn t = false by simpa using List.all_eq_true.1 Z t Y)⟩)
  (by as_aux_lemma => kernel_rfl)
#print axioms stackReturns_card
end Go.Proofs.YtcjkenapchcnhaaGreatDoor
