import Derived.Test.YtdhcliekejiegaaGreatDoorF27
import Derived.Test.YtdhcliekejiegaaGreatDoorRA
import Derived.Test.YtdhcliekejiegaaGreatDoorCards
import Derived.Test.YtdhcliekejiegaaGreatDoorTie
import Derived.SevenTiedAt
/- The tied card of klippelaw13.FieldMakes: for any described mesh (12), any point and any number of at most 40 bytes each, Constant and Plane return the fields, or ErrNumber; the sum of both is a plane that lies higher. Without a condition. -/
set_option maxHeartbeats 4000000
set_option maxRecDepth 100000
namespace Go.Proofs.YtdhcliekejiegaaGreatDoor
open Go Go.ChangeShapes Go.WideShapes Go.ChangeAt Go.RowKit Go.Lib
theorem fieldMakes_lifted (os : Os) (started : os.Started) (H : Type) (enc : TypeId × Value → H) :
 ReturnsInHanded {} Tryz.checked os 6 .any (fun w args => (Rows.fieldMakesSpec.pre enc Tryz.prog Tryz.f6 [] false w args ∧ laidMetH Tryz.prog Rows.fieldMakesRow.laid w) ∧ sizedMet enc Tryz.prog Tryz.f6 (OpenSpec.ofChange Rows.fieldMakesSpec) false w args)
  (Rows.fieldMakesSpec.post enc Tryz.prog Tryz.f6 false true false false) := by
 refine returns_and_shaped (C := Tryz.checked) (X := fun w _ => laidMetH Tryz.prog Rows.fieldMakesRow.laid w) (fun _ _ _ hh h => h.of_heap hh) own started (by kernel_rfl) Tryz.func6
  (ChangeSpec.witness_shaped (enc := enc) (C := Tryz.checked) (os := os) (X := fun w _ => laidMetH Tryz.prog Rows.fieldMakesRow.laid w) false (World.doorLaid Tryz.prog 62 os)
    #[.agg #[.int .u8 0, .int .i8 0, .int .i8 0, .bool false], .agg #[.string ⟨#[]⟩, .string ⟨#[]⟩], .string ⟨#[]⟩]
    8 rfl (World.shaped_of_RefB (by kernel_rfl) (by kernel_rfl)) (by kernel_rfl) (by kernel_rfl) (by kernel_rfl) (door_met os _)) ?_
 intro W base args ds gs before hval0 hW hL hsh
 have hval : ∀ (j : Nat) t v, Tryz.f6.params[j]? = some t → args[j]? = some v → Value.okWide Tryz.prog W .any base t v := hval0
 have hgd := good_of (by simp [Rows.fieldMakesRow]) (by kernel_rfl) hL hsh
 have hW' := hW
 obtain ⟨p, q, hA0, hV, rfl, _, _⟩ := hW
 have hA : DataW.TrodAll enc Tryz.prog W 0 (fun _ => true) true Tryz.f6.params.toList args.toList ds p := hA0
 rw [Tryz.params6] at hA hval
 obtain ⟨v0, v1, v2, d0, d1, d2, p0, p1, p2, rfl, rfl, _, _, _, _⟩ := trodAll_three hA
 obtain ⟨kz, s0, s1, half, rfl, hkz, hs0, hs1⟩ := open_sheet (hval 0 _ v0 rfl rfl)
 obtain ⟨x1, y1, rfl, hx1, hy1⟩ := open_point (hval 1 _ v1 rfl rfl)
 obtain ⟨t2, rfl, ht2⟩ := open_rat (hval 2 _ v2 rfl rfl)
 clear hA0 hval0 hA hval
 refine (fieldMakes_all W kz s0 s1 half x1 y1 t2 hkz.1 hkz.2 hs0 hs1    hgd).mono ?_
 rintro e W' ⟨v, rfl, rfl, hbel⟩
 exact ⟨_, rfl, post_true laidOut hW' rfl boolT rfl (by kernel_rfl) rfl hbel⟩
theorem and2b {a b : Bool} (h1 : a = true) (h2 : b = true) : (a && b) = true := by rw [h1, h2]; rfl
theorem fieldMakes_facts : joinedFacts Tryz.checked.prog 6 Tryz.f6 Rows.fieldMakesSpec Rows.fieldMakesRow = true := by
 unfold joinedFacts
 repeat' (with_reducible refine and2b ?_ ?_)
 all_goals (as_aux_lemma => kernel_rfl)
theorem fieldMakes_named : Tryz.checked.prog.funcNamed Rows.fieldMakesRow.func = some 6 := by kernel_rfl
theorem fieldMakes_holds : Rows.FieldMakesSaid :=
 OpenClaim.holds_of_wide 6 Tryz.f6 rfl rfl rfl rfl rfl rfl rfl ⟨rfl, rfl, rfl, rfl, rfl⟩ rfl rfl rfl rfl rfl fieldMakes_named Tryz.func6 fieldMakes_facts
  (of_decide_eq_true (by as_aux_lemma => kernel_rfl)) (by unfold Func.isWrapper; first | (rw [if_pos (by decide +kernel)]; kernel_rfl) | (rw [if_neg (by decide +kernel)]; exact ⟨rfl, rfl⟩))
  (fun os started H enc _ => fieldMakes_lifted os started H enc)
theorem fieldMakes_card : Rows.FieldMakesCardSaid :=
 Claim7.holds_tied_plain_at .later [] [.data, .data, .data, .sentinel, .sentinel] true Rows.fieldMakesCard.stood.harness true
  fieldMakes_holds (fun _ h => by cases h) (by as_aux_lemma => kernel_rfl) (fun _ h => by cases h) fieldMakes_row_tie rfl ⟨rfl, rfl⟩ (by as_aux_lemma => kernel_rfl) rfl
  (fun f fn hf hfn => by
    obtain rfl : f = 6 := Option.some.inj ((show Tryz.prog.funcNamed "klippe/klippelaw13.FieldMakes" = some 6 by kernel_rfl).symm.trans hf) |>.symm
    obtain rfl : fn = Tryz.f6 := (Option.some.inj (Tryz.func6.symm.trans hfn)).symm
    exact ⟨by as_aux_lemma => kernel_rfl, fun j t ht => by
     rw [Tryz.params6] at ht
     have hm : t ∈ [25, 59, 32] := by simpa using Array.mem_of_getElem? ht
     have hall : ([25, 59, 32].all fun u => !Tryz.prog.wantsStandIn u) = true := by kernel_rfl
     exact (show Tryz.prog.wantsStandIn t = false by simpa using List.all_eq_true.1 hall t hm)⟩)
  (by as_aux_lemma => kernel_rfl)
#print axioms fieldMakes_card
end Go.Proofs.YtdhcliekejiegaaGreatDoor
