import Derived.Test.YtbfcmipplhkkeaaGreatDoorVF101
import Derived.Test.YtbfcmipplhkkeaaGreatDoorVRI
import Derived.Test.YtbfcmipplhkkeaaGreatDoorCards
import Derived.Test.YtbfcmipplhkkeaaGreatDoorTie
import Derived.SevenTiedAt
/- The tied card of klippelaw13.FieldLevels: for any described mesh with a field, and any number of at most 40 bytes, Above and Level return the parts and the level lines, or ErrNumber. Without a condition. -/
set_option maxHeartbeats 4000000
set_option maxRecDepth 100000
namespace Go.Proofs.YtbfcmipplhkkeaaGreatDoor
open Go Go.ChangeShapes Go.WideShapes Go.ChangeAt Go.RowKit Go.Lib
theorem fieldLevels_lifted (os : Os) (V : os.Started) (H : Type) (enc : TypeId × Value -> H) :
 ReturnsInHanded {} Tryz.checked os 4 .any (fun w args => (Rows.fieldLevelsSpec.pre enc Tryz.prog Tryz.f4 [] false w args /\ laidMetH Tryz.prog Rows.fieldLevelsRow.laid w) /\ sizedMet enc Tryz.prog Tryz.f4 (OpenSpec.ofChange Rows.fieldLevelsSpec) false w args)
  (Rows.fieldLevelsSpec.post enc Tryz.prog Tryz.f4 false true false false) := by
 refine ras (C := Tryz.checked) (X := fun w _ => laidMetH Tryz.prog Rows.fieldLevelsRow.laid w) (fun _ _ _ hh h => h.of_heap hh) own V (by kernel_rfl) Tryz.func4
  (ChangeSpec.witness_shaped (enc := enc) (C := Tryz.checked) (os := os) (X := fun w _ => laidMetH Tryz.prog Rows.fieldLevelsRow.laid w) false (World.doorLaid Tryz.prog 62 os)
    #[.agg #[.int .u8 0, .int .i8 0, .int .i8 0, .bool false, .int .i8 0, .int .i8 0, .int .i8 0, .int .i8 0, .int .i8 0, .int .i8 0, .bool false, .int .i8 0, .int .i8 0, .int .i8 0, .int .i8 0, .int .i8 0, .int .i8 0, .bool false], .string ⟨#[]⟩]
    8 rfl (World.shaped_of_RefB (by kernel_rfl) (by kernel_rfl)) (by kernel_rfl) (by kernel_rfl) (by kernel_rfl) (dmt os _)) ?_
 intro W base args m gs O Y I l J;have Z : ∀ (j : Nat) t v, Tryz.f4.params[j]? = some t -> args[j]? = some v -> Value.okWide Tryz.prog W .any base t v := Y;have M := gof (by simp [Rows.fieldLevelsRow]) (by kernel_rfl) l J;have N := I;obtain ⟨p, q, U, hV, rfl, _, _⟩ := I;have hA : DataW.TrodAll enc Tryz.prog W 0 (fun _ => true) true Tryz.f4.params.toList args.toList m p := U;rw [Tryz.params4] at hA Z;obtain ⟨a, v1, d0, d1, p0, p1, rfl, rfl, _, _, _⟩ := trodAll_two hA;obtain ⟨f, d, c, S, a0, G, E, D, B, A, z, y, b1, x, s, r, o, n, rfl, Q, L, K, k, i⟩ := oit (Z 0 _ a rfl rfl);obtain ⟨b, rfl, g⟩ := ort (Z 1 _ v1 rfl rfl);clear U Y hA Z;refine (fLa W f d c S a0 G E D B A z y b1 x s r o n b Q.1 Q.2 L K k i   M).mono ?_;rintro e W' ⟨v, rfl, rfl, R⟩;exact ⟨_, rfl, pk0 lOt N rfl boolT rfl (by kernel_rfl) rfl R⟩
theorem and2b {a b : Bool} (Z : a = true) (Y : b = true) : (a && b) = true := by rw [Z, Y]; rfl
theorem fieldLevels_facts : joinedFacts Tryz.checked.prog 4 Tryz.f4 Rows.fieldLevelsSpec Rows.fieldLevelsRow = true := by
 unfold joinedFacts;repeat' (with_reducible refine and2b ?_ ?_)
 all_goals (as_aux_lemma => kernel_rfl)
theorem fieldLevels_named : Tryz.checked.prog.funcNamed Rows.fieldLevelsRow.func = some 4 := by kernel_rfl
theorem fieldLevels_holds : Rows.FieldLevelsSaid :=
 OpenClaim.holds_of_wide 4 Tryz.f4 rfl rfl rfl rfl rfl rfl rfl ⟨rfl, rfl, rfl, rfl, rfl⟩ rfl rfl rfl rfl rfl fieldLevels_named Tryz.func4 fieldLevels_facts
  (of_decide_eq_true (by as_aux_lemma => kernel_rfl)) (by unfold Func.isWrapper; first | (rw [if_pos (by decide +kernel)]; kernel_rfl) | (rw [if_neg (by decide +kernel)]; exact ⟨rfl, rfl⟩))
  (fun os started H enc _ => fieldLevels_lifted os started H enc)
theorem fieldLevels_card : Rows.FieldLevelsCardSaid :=
 Claim7.holds_tied_plain_at .later [] [.data, .data, .data, .sentinel, .sentinel] true Rows.fieldLevelsCard.stood.harness true
  fieldLevels_holds (fun _ h => by cases h) (by as_aux_lemma => kernel_rfl) (fun _ h => by cases h) fieldLevels_row_tie rfl ⟨rfl, rfl⟩ (by as_aux_lemma => kernel_rfl) rfl
  (fun f fn hf hfn => by
    obtain rfl : f = 4 := Option.some.inj ((show Tryz.prog.funcNamed "klippe/klippelaw13.FieldLevels" = some 4 by kernel_rfl).symm.trans hf) |>.symm;obtain rfl : fn = Tryz.f4 := (Option.some.inj (Tryz.func4.symm.trans hfn)).symm;exact ⟨by as_aux_lemma => kernel_rfl, fun j t ht => by
     rw [Tryz.params4] at ht;have Y : t ∈ [30, 40] := by simpa using Array.mem_of_getElem? ht
     have Z : ([30, 40].all fun u => !Tryz.prog.wantsStandIn u) = true := by kernel_rfl
     exact (show Tryz.prog.wantsStandIn t = false by simpa using List.all_eq_true.1 Z t Y)⟩)
  (by as_aux_lemma => kernel_rfl)
#print axioms fieldLevels_card
end Go.Proofs.YtbfcmipplhkkeaaGreatDoor
