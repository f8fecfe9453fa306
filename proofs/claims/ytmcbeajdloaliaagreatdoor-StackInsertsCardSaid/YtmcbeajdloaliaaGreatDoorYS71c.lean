import Derived.Test.YtmcbeajdloaliaaGreatDoorYS71
import Derived.Test.YtmcbeajdloaliaaGreatDoorYRU
import Derived.Test.YtmcbeajdloaliaaGreatDoorCards
import Derived.Test.YtmcbeajdloaliaaGreatDoorTie
import Derived.SevenTiedAt
/- The tied card of klippelaw28.StackInserts: for any planned deposit, any unit of a name of at most 40 bytes on a surface with a number, and any heights as its thickness, Insert returns the deposit with it, or the first error. Without a condition. -/
set_option maxHeartbeats 4000000
set_option maxRecDepth 100000
namespace Go.Proofs.YtmcbeajdloaliaaGreatDoor
open Go Go.ChangeShapes Go.WideShapes Go.ChangeAt Go.RowKit Go.Lib
theorem stackInserts_lifted (os : Os) (V : os.Started) (H : Type) (enc : TypeId × Value -> H) :
 ReturnsInHanded {} Tryz.checked os 3 .any (fun w args => (Rows.stackInsertsSpec.pre enc Tryz.prog Tryz.f3 [] false w args /\ laidMetH Tryz.prog Rows.stackInsertsRow.laid w) /\ sizedMet enc Tryz.prog Tryz.f3 (OpenSpec.ofChange Rows.stackInsertsSpec) false w args)
  (Rows.stackInsertsSpec.post enc Tryz.prog Tryz.f3 false true false false) := by
 refine ras (C := Tryz.checked) (X := fun w _ => laidMetH Tryz.prog Rows.stackInsertsRow.laid w) (fun _ _ _ hh h => h.of_heap hh) own V (by kernel_rfl) Tryz.func3
  (ChangeSpec.witness_shaped (enc := enc) (C := Tryz.checked) (os := os) (X := fun w _ => laidMetH Tryz.prog Rows.stackInsertsRow.laid w) false (World.doorLaid Tryz.prog 62 os)
    #[.agg #[.int .u8 0, .int .i8 0, .int .i8 0, .bool false, .int .i8 0, .int .i8 0, .int .i8 0, .int .i8 0, .int .i8 0, .int .i8 0, .bool false, .slice none 0 0], .agg #[.string ⟨#[]⟩, .int .i64 0, .slice none 0 0], .agg #[.int .i8 0, .int .i8 0, .int .i8 0, .int .i8 0, .int .i8 0, .int .i8 0, .bool false]]
    8 rfl (World.shaped_of_RefB (by kernel_rfl) (by kernel_rfl)) (by kernel_rfl) (by kernel_rfl) (by kernel_rfl) (dmt os _)) ?_
 intro W base args g gs N Y l d A;have Z : ∀ (j : Nat) t v, Tryz.f3.params[j]? = some t -> args[j]? = some v -> Value.okWide Tryz.prog W .any base t v := Y;have G := gof (by simp [Rows.stackInsertsRow]) (by kernel_rfl) d A;have J := l;obtain ⟨p, q, R, hV, rfl, _, _⟩ := l;have hA : DataW.TrodAll enc Tryz.prog W 0 (fun _ => true) true Tryz.f3.params.toList args.toList g p := R;rw [Tryz.params3] at hA Z;obtain ⟨v0, v1, v2, m, d1, d2, p0, p1, p2, rfl, rfl, _, K, _, _⟩ := trodAll_three hA;obtain ⟨z, s0, r0, S, a0, i, c0, m, f, f0, M, n, k, rfl, U, B, D, I, L⟩ := op2 (Z 0 _ v0 rfl rfl) K;obtain ⟨y, x, o, r, s, rfl, O⟩ := of0 (Z 1 _ v1 rfl rfl);obtain ⟨c, b, a, q3, q4, q5, qh, rfl, E⟩ := oh7 (Z 2 _ v2 rfl rfl);clear R Y hA Z;refine (si0 W z s0 r0 S a0 i c0 m f f0 M n k y x o r s c b a q3 q4 q5 qh U.1 U.2 B D I L  E O G).mono ?_;rintro e W' ⟨v, rfl, rfl, Q⟩;exact ⟨_, rfl, pe0 lOt J rfl boolT rfl (by kernel_rfl) rfl Q⟩
theorem and2b {a b : Bool} (Z : a = true) (Y : b = true) : (a && b) = true := by rw [Z, Y]; rfl
theorem stackInserts_facts : joinedFacts Tryz.checked.prog 3 Tryz.f3 Rows.stackInsertsSpec Rows.stackInsertsRow = true := by
 unfold joinedFacts;repeat' (with_reducible refine and2b ?_ ?_)
 all_goals (as_aux_lemma => kernel_rfl)
theorem stackInserts_named : Tryz.checked.prog.funcNamed Rows.stackInsertsRow.func = some 3 := by kernel_rfl
theorem stackInserts_holds : Rows.StackInsertsSaid :=
 OpenClaim.holds_of_wide 3 Tryz.f3 rfl rfl rfl rfl rfl rfl rfl ⟨rfl, rfl, rfl, rfl, rfl⟩ rfl rfl rfl rfl rfl stackInserts_named Tryz.func3 stackInserts_facts
  (of_decide_eq_true (by as_aux_lemma => kernel_rfl)) (by unfold Func.isWrapper; first | (rw [if_pos (by decide +kernel)]; kernel_rfl) | (rw [if_neg (by decide +kernel)]; exact ⟨rfl, rfl⟩))
  (fun os started H enc _ => stackInserts_lifted os started H enc)
theorem stackInserts_card : Rows.StackInsertsCardSaid :=
 Claim7.holds_tied_plain_at .later [] [.data, .data, .data, .sentinel, .sentinel] true Rows.stackInsertsCard.stood.harness true
  stackInserts_holds (fun _ h => by cases h) (by as_aux_lemma => kernel_rfl) (fun _ h => by cases h) stackInserts_row_tie rfl ⟨rfl, rfl⟩ (by as_aux_lemma => kernel_rfl) rfl
  (fun f fn hf hfn => by
    obtain rfl : f = 3 := Option.some.inj ((show Tryz.prog.funcNamed "klippe/klippelaw28.StackInserts" = some 3 by kernel_rfl).symm.trans hf) |>.symm;obtain rfl : fn = Tryz.f3 := (Option.some.inj (Tryz.func3.symm.trans hfn)).symm;exact ⟨by as_aux_lemma => kernel_rfl, fun j t ht => by
     rw [Tryz.params3] at ht;have Y : t ∈ [31, 35, 28] := by simpa using Array.mem_of_getElem? ht
     have Z : ([31, 35, 28].all fun u => !Tryz.prog.wantsStandIn u) = true := by kernel_rfl
     exact (show Tryz.prog.wantsStandIn t = false by simpa using List.all_eq_true.1 Z t Y)⟩)
  (by as_aux_lemma => kernel_rfl)
#print axioms stackInserts_card
end Go.Proofs.YtmcbeajdloaliaaGreatDoor
