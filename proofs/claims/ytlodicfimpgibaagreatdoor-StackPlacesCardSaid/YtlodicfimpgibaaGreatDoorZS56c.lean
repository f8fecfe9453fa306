import Derived.Test.YtlodicfimpgibaaGreatDoorZS56
import Derived.Test.YtlodicfimpgibaaGreatDoorZRQ
import Derived.Test.YtlodicfimpgibaaGreatDoorCards
import Derived.Test.YtlodicfimpgibaaGreatDoorTie
import Derived.SevenTiedAt
/- The tied card of klippelaw28.StackPlaces: for any planned deposit, any place of quarters and any height of quarters, At returns the unit, or that it is below; outside of the sheet ErrOutside, and for a number that is not right ErrNumber. Without a condition. -/
set_option maxHeartbeats 4000000
set_option maxRecDepth 100000
namespace Go.Proofs.YtlodicfimpgibaaGreatDoor
open Go Go.ChangeShapes Go.WideShapes Go.ChangeAt Go.RowKit Go.Lib
theorem stackPlaces_lifted (os : Os) (V : os.Started) (H : Type) (enc : TypeId × Value -> H) :
 ReturnsInHanded {} Tryz.checked os 4 .any (fun w args => (Rows.stackPlacesSpec.pre enc Tryz.prog Tryz.f4 [] false w args /\ laidMetH Tryz.prog Rows.stackPlacesRow.laid w) /\ sizedMet enc Tryz.prog Tryz.f4 (OpenSpec.ofChange Rows.stackPlacesSpec) false w args)
  (Rows.stackPlacesSpec.post enc Tryz.prog Tryz.f4 false true false false) := by
 refine ras (C := Tryz.checked) (X := fun w _ => laidMetH Tryz.prog Rows.stackPlacesRow.laid w) (fun _ _ _ hh h => h.of_heap hh) own V (by kernel_rfl) Tryz.func4
  (ChangeSpec.witness_shaped (enc := enc) (C := Tryz.checked) (os := os) (X := fun w _ => laidMetH Tryz.prog Rows.stackPlacesRow.laid w) false (World.doorLaid Tryz.prog 62 os)
    #[.agg #[.int .u8 0, .int .i8 0, .int .i8 0, .bool false, .int .i8 0, .int .i8 0, .int .i8 0, .int .i8 0, .int .i8 0, .int .i8 0, .bool false, .slice none 0 0], .agg #[.int .i8 0, .int .i8 0], .int .i16 0]
    8 rfl (World.shaped_of_RefB (by kernel_rfl) (by kernel_rfl)) (by kernel_rfl) (by kernel_rfl) (by kernel_rfl) (dmt os _)) ?_
 intro W base args m gs O Y r k B;have Z : ∀ (j : Nat) t v, Tryz.f4.params[j]? = some t -> args[j]? = some v -> Value.okWide Tryz.prog W .any base t v := Y;have I := gof (by simp [Rows.stackPlacesRow]) (by kernel_rfl) k B;have K := r;obtain ⟨p, q, R, hV, rfl, _, _⟩ := r;have hA : DataW.TrodAll enc Tryz.prog W 0 (fun _ => true) true Tryz.f4.params.toList args.toList m p := R;rw [Tryz.params4] at hA Z;obtain ⟨v0, v1, v2, s, b, a, p0, p1, p2, rfl, rfl, _, L, _, _⟩ := trodAll_three hA;obtain ⟨y, f, g, S, a0, n, c0, s, l, f0, N, x, o, rfl, U, D, E, J, M⟩ := op2 (Z 0 _ v0 rfl rfl) L;obtain ⟨x1, d, rfl, A, z⟩ := ob2 (Z 1 _ v1 rfl rfl);obtain ⟨i, rfl, G⟩ := oi1 (Z 2 _ v2 rfl rfl);clear R Y hA Z;refine (sPa W y f g S a0 n c0 s l f0 N x o x1 d i U.1 U.2 D E J M A z G I).mono ?_;rintro e c ⟨v, rfl, rfl, Q⟩;exact ⟨_, rfl, pb0 lOt K rfl boolT rfl (by kernel_rfl) rfl Q⟩
theorem and2b {a b : Bool} (Z : a = true) (Y : b = true) : (a && b) = true := by rw [Z, Y]; rfl
theorem stackPlaces_facts : joinedFacts Tryz.checked.prog 4 Tryz.f4 Rows.stackPlacesSpec Rows.stackPlacesRow = true := by
 unfold joinedFacts;repeat' (with_reducible refine and2b ?_ ?_)
 all_goals (as_aux_lemma => kernel_rfl)
theorem stackPlaces_named : Tryz.checked.prog.funcNamed Rows.stackPlacesRow.func = some 4 := by kernel_rfl
theorem stackPlaces_holds : Rows.StackPlacesSaid :=
 OpenClaim.holds_of_wide 4 Tryz.f4 rfl rfl rfl rfl rfl rfl rfl ⟨rfl, rfl, rfl, rfl, rfl⟩ rfl rfl rfl rfl rfl stackPlaces_named Tryz.func4 stackPlaces_facts
  (of_decide_eq_true (by as_aux_lemma => kernel_rfl)) (by unfold Func.isWrapper; first | (rw [if_pos (by decide +kernel)]; kernel_rfl) | (rw [if_neg (by decide +kernel)]; exact ⟨rfl, rfl⟩))
  (fun os started H enc _ => stackPlaces_lifted os started H enc)
theorem stackPlaces_card : Rows.StackPlacesCardSaid :=
 Claim7.holds_tied_plain_at .later [] [.data, .data, .data, .sentinel, .sentinel] true Rows.stackPlacesCard.stood.harness true
  stackPlaces_holds (fun _ h => by cases h) (by as_aux_lemma => kernel_rfl) (fun _ h => by cases h) stackPlaces_row_tie rfl ⟨rfl, rfl⟩ (by as_aux_lemma => kernel_rfl) rfl
  (fun f fn hf hfn => by
    obtain rfl : f = 4 := Option.some.inj ((show Tryz.prog.funcNamed "klippe/klippelaw28.StackPlaces" = some 4 by kernel_rfl).symm.trans hf) |>.symm;obtain rfl : fn = Tryz.f4 := (Option.some.inj (Tryz.func4.symm.trans hfn)).symm;exact ⟨by as_aux_lemma => kernel_rfl, fun j t ht => by
     rw [Tryz.params4] at ht;have Y : t ∈ [31, 23, 32] := by simpa using Array.mem_of_getElem? ht
     have Z : ([31, 23, 32].all fun u => !Tryz.prog.wantsStandIn u) = true := by kernel_rfl
     exact (show Tryz.prog.wantsStandIn t = false by simpa using List.all_eq_true.1 Z t Y)⟩)
  (by as_aux_lemma => kernel_rfl)
#print axioms stackPlaces_card
end Go.Proofs.YtlodicfimpgibaaGreatDoor
