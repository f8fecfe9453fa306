import Derived.Test.YtmcbeajdloaliaaGreatDoorZS84
import Derived.Test.YtmcbeajdloaliaaGreatDoorZRP
import Derived.Test.YtmcbeajdloaliaaGreatDoorCards
import Derived.Test.YtmcbeajdloaliaaGreatDoorTie
import Derived.SevenTiedAt
/- The tied card of klippelaw28.StackSurfaces: for any planned deposit, any number, and the unit with this index (modulo), Surface, Thickness, Volume and Pinched return the surface, the thickness, the volume and the points without thickness, or the errors. Without a condition. -/
set_option maxHeartbeats 4000000
set_option maxRecDepth 100000
namespace Go.Proofs.YtmcbeajdloaliaaGreatDoor
open Go Go.ChangeShapes Go.WideShapes Go.ChangeAt Go.RowKit Go.Lib
theorem stackSurfaces_lifted (os : Os) (V : os.Started) (H : Type) (enc : TypeId × Value -> H) :
 ReturnsInHanded {} Tryz.checked os 4 .any (fun w args => (Rows.stackSurfacesSpec.pre enc Tryz.prog Tryz.f4 [] false w args /\ laidMetH Tryz.prog Rows.stackSurfacesRow.laid w) /\ sizedMet enc Tryz.prog Tryz.f4 (OpenSpec.ofChange Rows.stackSurfacesSpec) false w args)
  (Rows.stackSurfacesSpec.post enc Tryz.prog Tryz.f4 false true false false) := by
 refine ras (C := Tryz.checked) (X := fun w _ => laidMetH Tryz.prog Rows.stackSurfacesRow.laid w) (fun _ _ _ hh h => h.of_heap hh) own V (by kernel_rfl) Tryz.func4
  (ChangeSpec.witness_shaped (enc := enc) (C := Tryz.checked) (os := os) (X := fun w _ => laidMetH Tryz.prog Rows.stackSurfacesRow.laid w) false (World.doorLaid Tryz.prog 62 os)
    #[.agg #[.int .u8 0, .int .i8 0, .int .i8 0, .bool false, .int .i8 0, .int .i8 0, .int .i8 0, .int .i8 0, .int .i8 0, .int .i8 0, .bool false, .slice none 0 0], .int .i64 0]
    8 rfl (World.shaped_of_RefB (by kernel_rfl) (by kernel_rfl)) (by kernel_rfl) (by kernel_rfl) (by kernel_rfl) (dmt os _)) ?_
 intro W base args o d O Y x m B;have Z : ∀ (j : Nat) t v, Tryz.f4.params[j]? = some t -> args[j]? = some v -> Value.okWide Tryz.prog W .any base t v := Y;have I := gof (by simp [Rows.stackSurfacesRow]) (by kernel_rfl) m B;have K := x;obtain ⟨p, q, R, c, rfl, _, _⟩ := x;have hA : DataW.TrodAll enc Tryz.prog W 0 (fun _ => true) true Tryz.f4.params.toList args.toList o p := R;rw [Tryz.params4] at hA Z;obtain ⟨v0, v1, y, f, b, a, rfl, rfl, _, L, _⟩ := trodAll_two hA;obtain ⟨A, i, k, S, a0, r, c0, y, n, f0, N, z, s, rfl, U, D, E, J, M⟩ := op2 (Z 0 _ v0 rfl rfl) L;obtain ⟨l, rfl, G⟩ := oi6 (Z 1 _ v1 rfl rfl);clear R Y hA Z;refine (sSa W A i k S a0 r c0 y n f0 N z s l U.1 U.2 D E J M G I).mono ?_;rintro e g ⟨v, rfl, rfl, Q⟩;exact ⟨_, rfl, pe0 lOt K rfl boolT rfl (by kernel_rfl) rfl Q⟩
theorem and2b {a b : Bool} (Z : a = true) (Y : b = true) : (a && b) = true := by rw [Z, Y]; rfl
theorem stackSurfaces_facts : joinedFacts Tryz.checked.prog 4 Tryz.f4 Rows.stackSurfacesSpec Rows.stackSurfacesRow = true := by
 unfold joinedFacts;repeat' (with_reducible refine and2b ?_ ?_)
 all_goals (as_aux_lemma => kernel_rfl)
theorem stackSurfaces_named : Tryz.checked.prog.funcNamed Rows.stackSurfacesRow.func = some 4 := by kernel_rfl
theorem stackSurfaces_holds : Rows.StackSurfacesSaid :=
 OpenClaim.holds_of_wide 4 Tryz.f4 rfl rfl rfl rfl rfl rfl rfl ⟨rfl, rfl, rfl, rfl, rfl⟩ rfl rfl rfl rfl rfl stackSurfaces_named Tryz.func4 stackSurfaces_facts
  (of_decide_eq_true (by as_aux_lemma => kernel_rfl)) (by unfold Func.isWrapper; first | (rw [if_pos (by decide +kernel)]; kernel_rfl) | (rw [if_neg (by decide +kernel)]; exact ⟨rfl, rfl⟩))
  (fun os started H enc _ => stackSurfaces_lifted os started H enc)
theorem stackSurfaces_card : Rows.StackSurfacesCardSaid :=
 Claim7.holds_tied_plain_at .later [] [.data, .data, .data, .sentinel, .sentinel] true Rows.stackSurfacesCard.stood.harness true
  stackSurfaces_holds (fun _ h => by cases h) (by as_aux_lemma => kernel_rfl) (fun _ h => by cases h) stackSurfaces_row_tie rfl ⟨rfl, rfl⟩ (by as_aux_lemma => kernel_rfl) rfl
  (fun f fn hf hfn => by
    obtain rfl : f = 4 := Option.some.inj ((show Tryz.prog.funcNamed "klippe/klippelaw28.StackSurfaces" = some 4 by kernel_rfl).symm.trans hf) |>.symm;obtain rfl : fn = Tryz.f4 := (Option.some.inj (Tryz.func4.symm.trans hfn)).symm;exact ⟨by as_aux_lemma => kernel_rfl, fun j t ht => by
     rw [Tryz.params4] at ht;have Y : t ∈ [31, 3] := by simpa using Array.mem_of_getElem? ht
     have Z : ([31, 3].all fun u => !Tryz.prog.wantsStandIn u) = true := by kernel_rfl
     exact (show Tryz.prog.wantsStandIn t = false by simpa using List.all_eq_true.1 Z t Y)⟩)
  (by as_aux_lemma => kernel_rfl)
#print axioms stackSurfaces_card
end Go.Proofs.YtmcbeajdloaliaaGreatDoor
