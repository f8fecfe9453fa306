import Derived.Test.YtmcbeajdloaliaaGreatDoorUS97
import Derived.Test.YtmcbeajdloaliaaGreatDoorURV
import Derived.Test.YtmcbeajdloaliaaGreatDoorCards
import Derived.Test.YtmcbeajdloaliaaGreatDoorTie
import Derived.SevenTiedAt
/- The tied card of klippelaw28.StackChecks: for any planned deposit and any change of it (with a number and a name of at most 40 bytes), Check returns OK or the first error, and so do the other functions. Without a condition. -/
set_option maxHeartbeats 4000000
set_option maxRecDepth 100000
namespace Go.Proofs.YtmcbeajdloaliaaGreatDoor
open Go Go.ChangeShapes Go.WideShapes Go.ChangeAt Go.RowKit Go.Lib
theorem stackChecks_lifted (os : Os) (V : os.Started) (H : Type) (enc : TypeId × Value -> H) :
 ReturnsInHanded {} Tryz.checked os 5 .any (fun w args => (Rows.stackChecksSpec.pre enc Tryz.prog Tryz.f5 [] false w args /\ laidMetH Tryz.prog Rows.stackChecksRow.laid w) /\ sizedMet enc Tryz.prog Tryz.f5 (OpenSpec.ofChange Rows.stackChecksSpec) false w args)
  (Rows.stackChecksSpec.post enc Tryz.prog Tryz.f5 false true false false) := by
 refine ras (C := Tryz.checked) (X := fun w _ => laidMetH Tryz.prog Rows.stackChecksRow.laid w) (fun _ _ _ hh h => h.of_heap hh) own V (by kernel_rfl) Tryz.func5
  (ChangeSpec.witness_shaped (enc := enc) (C := Tryz.checked) (os := os) (X := fun w _ => laidMetH Tryz.prog Rows.stackChecksRow.laid w) false (World.doorLaid Tryz.prog 62 os)
    #[.agg #[.int .u8 0, .int .i8 0, .int .i8 0, .bool false, .int .i8 0, .int .i8 0, .int .i8 0, .int .i8 0, .int .i8 0, .int .i8 0, .bool false, .slice none 0 0], .agg #[.int .u8 0, .int .u8 0, .string ⟨#[]⟩, .string ⟨#[]⟩]]
    8 rfl (World.shaped_of_RefB (by kernel_rfl) (by kernel_rfl)) (by kernel_rfl) (by kernel_rfl) (by kernel_rfl) (dmt os _)) ?_
 intro W base args i gs M Y m f z;have Z : ∀ (j : Nat) t v, Tryz.f5.params[j]? = some t -> args[j]? = some v -> Value.okWide Tryz.prog W .any base t v := Y;have D := gof (by simp [Rows.stackChecksRow]) (by kernel_rfl) f z;have G := m;obtain ⟨p, q, R, hV, rfl, _, _⟩ := m;have hA : DataW.TrodAll enc Tryz.prog W 0 (fun _ => true) true Tryz.f5.params.toList args.toList i p := R;rw [Tryz.params5] at hA Z;obtain ⟨v0, v1, n, a, p0, p1, rfl, rfl, _, I, _⟩ := trodAll_two hA;obtain ⟨x, c, d, S, a0, k, c0, n, g, f0, L, o, l, rfl, U, A, B, E, J⟩ := op2 (Z 0 _ v0 rfl rfl) I;obtain ⟨y, K, r, s, rfl, N, Q⟩ := os2 (Z 1 _ v1 rfl rfl);clear R Y hA Z;refine (sCa W x c d S a0 k c0 n g f0 L o l y K r s U.1 U.2 A B E J N Q D).mono ?_;rintro e b ⟨v, rfl, rfl, O⟩;exact ⟨_, rfl, pe0 lOt G rfl boolT rfl (by kernel_rfl) rfl O⟩
theorem and2b {a b : Bool} (Z : a = true) (Y : b = true) : (a && b) = true := by rw [Z, Y]; rfl
theorem stackChecks_facts : joinedFacts Tryz.checked.prog 5 Tryz.f5 Rows.stackChecksSpec Rows.stackChecksRow = true := by
 unfold joinedFacts;repeat' (with_reducible refine and2b ?_ ?_)
 all_goals (as_aux_lemma => kernel_rfl)
theorem stackChecks_named : Tryz.checked.prog.funcNamed Rows.stackChecksRow.func = some 5 := by kernel_rfl
theorem stackChecks_holds : Rows.StackChecksSaid :=
 OpenClaim.holds_of_wide 5 Tryz.f5 rfl rfl rfl rfl rfl rfl rfl ⟨rfl, rfl, rfl, rfl, rfl⟩ rfl rfl rfl rfl rfl stackChecks_named Tryz.func5 stackChecks_facts
  (of_decide_eq_true (by as_aux_lemma => kernel_rfl)) (by unfold Func.isWrapper; first | (rw [if_pos (by decide +kernel)]; kernel_rfl) | (rw [if_neg (by decide +kernel)]; exact ⟨rfl, rfl⟩))
  (fun os started H enc _ => stackChecks_lifted os started H enc)
theorem stackChecks_card : Rows.StackChecksCardSaid :=
 Claim7.holds_tied_plain_at .later [] [.data, .data, .data, .sentinel, .sentinel] true Rows.stackChecksCard.stood.harness true
  stackChecks_holds (fun _ h => by cases h) (by as_aux_lemma => kernel_rfl) (fun _ h => by cases h) stackChecks_row_tie rfl ⟨rfl, rfl⟩ (by as_aux_lemma => kernel_rfl) rfl
  (fun f fn hf hfn => by
    obtain rfl : f = 5 := Option.some.inj ((show Tryz.prog.funcNamed "klippe/klippelaw28.StackChecks" = some 5 by kernel_rfl).symm.trans hf) |>.symm;obtain rfl : fn = Tryz.f5 := (Option.some.inj (Tryz.func5.symm.trans hfn)).symm;exact ⟨by as_aux_lemma => kernel_rfl, fun j t ht => by
     rw [Tryz.params5] at ht;have Y : t ∈ [31, 77] := by simpa using Array.mem_of_getElem? ht
     have Z : ([31, 77].all fun u => !Tryz.prog.wantsStandIn u) = true := by kernel_rfl
     exact (show Tryz.prog.wantsStandIn t = false by simpa using List.all_eq_true.1 Z t Y)⟩)
  (by as_aux_lemma => kernel_rfl)
#print axioms stackChecks_card
end Go.Proofs.YtmcbeajdloaliaaGreatDoor
