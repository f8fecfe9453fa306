import Derived.Test.YtmcbeajdloaliaaGreatDoorVS93
import Derived.Test.YtmcbeajdloaliaaGreatDoorVRP
import Derived.Test.YtmcbeajdloaliaaGreatDoorCards
import Derived.Test.YtmcbeajdloaliaaGreatDoorTie
import Derived.SevenTiedAt
/- The tied card of klippelaw28.StackColumns: for any planned deposit and any number of layers up to 5 (or none), Of returns the deposit of the column with its surfaces, or the first error; so it does for a wrong column, or horizons that are not in order. Without a condition. -/
set_option maxHeartbeats 4000000
set_option maxRecDepth 100000
namespace Go.Proofs.YtmcbeajdloaliaaGreatDoor
open Go Go.ChangeShapes Go.WideShapes Go.ChangeAt Go.RowKit Go.Lib
theorem stackColumns_lifted (os : Os) (V : os.Started) (H : Type) (enc : TypeId × Value -> H) :
 ReturnsInHanded {} Tryz.checked os 6 .any (fun w args => (Rows.stackColumnsSpec.pre enc Tryz.prog Tryz.f6 [] false w args /\ laidMetH Tryz.prog Rows.stackColumnsRow.laid w) /\ sizedMet enc Tryz.prog Tryz.f6 (OpenSpec.ofChange Rows.stackColumnsSpec) false w args)
  (Rows.stackColumnsSpec.post enc Tryz.prog Tryz.f6 false true false false) := by
 refine ras (C := Tryz.checked) (X := fun w _ => laidMetH Tryz.prog Rows.stackColumnsRow.laid w) (fun _ _ _ hh h => h.of_heap hh) own V (by kernel_rfl) Tryz.func6
  (ChangeSpec.witness_shaped (enc := enc) (C := Tryz.checked) (os := os) (X := fun w _ => laidMetH Tryz.prog Rows.stackColumnsRow.laid w) false (World.doorLaid Tryz.prog 62 os)
    #[.agg #[.int .u8 0, .int .i8 0, .int .i8 0, .bool false, .int .i8 0, .int .i8 0, .int .i8 0, .int .i8 0, .int .i8 0, .int .i8 0, .bool false, .slice none 0 0], .int .u8 0]
    8 rfl (World.shaped_of_RefB (by kernel_rfl) (by kernel_rfl)) (by kernel_rfl) (by kernel_rfl) (by kernel_rfl) (dmt os _)) ?_
 intro W base args o d N Y x m B;have Z : ∀ (j : Nat) t v, Tryz.f6.params[j]? = some t -> args[j]? = some v -> Value.okWide Tryz.prog W .any base t v := Y;have G := gof (by simp [Rows.stackColumnsRow]) (by kernel_rfl) m B;have J := x;obtain ⟨p, q, R, c, rfl, _, _⟩ := x;have hA : DataW.TrodAll enc Tryz.prog W 0 (fun _ => true) true Tryz.f6.params.toList args.toList o p := R;rw [Tryz.params6] at hA Z;obtain ⟨v0, v1, y, f, b, a, rfl, rfl, _, K, _⟩ := trodAll_two hA;obtain ⟨A, i, k, S, a0, r, c0, y, n, f0, M, z, s, rfl, U, D, E, I, L⟩ := op2 (Z 0 _ v0 rfl rfl) K;obtain ⟨l, rfl, O⟩ := ou8 (Z 1 _ v1 rfl rfl);clear R Y hA Z;refine (sCa W A i k S a0 r c0 y n f0 M z s l U.1 U.2 D E I L O.1 O.2 G).mono ?_;rintro e g ⟨v, rfl, rfl, Q⟩;exact ⟨_, rfl, pe0 lOt J rfl boolT rfl (by kernel_rfl) rfl Q⟩
theorem and2b {a b : Bool} (Z : a = true) (Y : b = true) : (a && b) = true := by rw [Z, Y]; rfl
theorem stackColumns_facts : joinedFacts Tryz.checked.prog 6 Tryz.f6 Rows.stackColumnsSpec Rows.stackColumnsRow = true := by
 unfold joinedFacts;repeat' (with_reducible refine and2b ?_ ?_)
 all_goals (as_aux_lemma => kernel_rfl)
theorem stackColumns_named : Tryz.checked.prog.funcNamed Rows.stackColumnsRow.func = some 6 := by kernel_rfl
theorem stackColumns_holds : Rows.StackColumnsSaid :=
 OpenClaim.holds_of_wide 6 Tryz.f6 rfl rfl rfl rfl rfl rfl rfl ⟨rfl, rfl, rfl, rfl, rfl⟩ rfl rfl rfl rfl rfl stackColumns_named Tryz.func6 stackColumns_facts
  (of_decide_eq_true (by as_aux_lemma => kernel_rfl)) (by unfold Func.isWrapper; first | (rw [if_pos (by decide +kernel)]; kernel_rfl) | (rw [if_neg (by decide +kernel)]; exact ⟨rfl, rfl⟩))
  (fun os started H enc _ => stackColumns_lifted os started H enc)
theorem stackColumns_card : Rows.StackColumnsCardSaid :=
 Claim7.holds_tied_plain_at .later [] [.data, .data, .data, .sentinel, .sentinel] true Rows.stackColumnsCard.stood.harness true
  stackColumns_holds (fun _ h => by cases h) (by as_aux_lemma => kernel_rfl) (fun _ h => by cases h) stackColumns_row_tie rfl ⟨rfl, rfl⟩ (by as_aux_lemma => kernel_rfl) rfl
  (fun f fn hf hfn => by
    obtain rfl : f = 6 := Option.some.inj ((show Tryz.prog.funcNamed "klippe/klippelaw28.StackColumns" = some 6 by kernel_rfl).symm.trans hf) |>.symm;obtain rfl : fn = Tryz.f6 := (Option.some.inj (Tryz.func6.symm.trans hfn)).symm;exact ⟨by as_aux_lemma => kernel_rfl, fun j t ht => by
     rw [Tryz.params6] at ht;have Y : t ∈ [31, 5] := by simpa using Array.mem_of_getElem? ht
     have Z : ([31, 5].all fun u => !Tryz.prog.wantsStandIn u) = true := by kernel_rfl
     exact (show Tryz.prog.wantsStandIn t = false by simpa using List.all_eq_true.1 Z t Y)⟩)
  (by as_aux_lemma => kernel_rfl)
#print axioms stackColumns_card
end Go.Proofs.YtmcbeajdloaliaaGreatDoor
