/- The tied card of klippelaw12.MeshAlongs: for any sheet and any two places of halves, Along returns the spans: those of the triangles, without those along an edge that a triangle with a lesser index has; ErrZero if both are the same: the law returns true at every input, and the arguments read as before. Without a condition. -/
import Derived.Test.YtccngnjkehibiaaGreatDoorM33
import Derived.Test.YtccngnjkehibiaaGreatDoorRA
import Derived.Test.YtccngnjkehibiaaGreatDoorCards
import Derived.Test.YtccngnjkehibiaaGreatDoorTie
import Derived.SevenTiedAt
namespace Go.Proofs.YtccngnjkehibiaaGreatDoor
open Go Go.ChangeShapes Go.WideShapes Go.ChangeAt Go.RowKit Go.Lib

set_option maxRecDepth 100000 in
theorem meshAlongs_lifted (os : Os) (started : os.Started) (H : Type) (enc : TypeId × Value → H) :
    ReturnsInHanded {} Tryz.checked os 4 .any (fun w args => (Rows.meshAlongsSpec.pre enc Tryz.prog Tryz.f4 [] false w args ∧ laidMetH Tryz.prog Rows.meshAlongsRow.laid w) ∧ sizedMet enc Tryz.prog Tryz.f4 (OpenSpec.ofChange Rows.meshAlongsSpec) false w args)
      (Rows.meshAlongsSpec.post enc Tryz.prog Tryz.f4 false true false false) := by
  refine returns_and_shaped (C := Tryz.checked) (X := fun w _ => laidMetH Tryz.prog Rows.meshAlongsRow.laid w) (fun _ _ _ hh h => h.of_heap hh) own started (by kernel_rfl) Tryz.func4
    (ChangeSpec.witness_shaped (enc := enc) (C := Tryz.checked) (os := os) (X := fun w _ => laidMetH Tryz.prog Rows.meshAlongsRow.laid w) false (World.doorLaid Tryz.prog 62 os)
      #[.agg #[.int .u8 0, .int .i8 0, .int .i8 0, .bool false], .agg #[.int .i8 0, .int .i8 0], .agg #[.int .i8 0, .int .i8 0]]
      8 rfl (World.shaped_of_RefB (by kernel_rfl) (by kernel_rfl)) (by kernel_rfl) (by kernel_rfl) (by kernel_rfl) (door_met os _)) ?_
  intro W base args ds gs before hval0 hW hL hsh
  have hval : ∀ (j : Nat) t v, Tryz.f4.params[j]? = some t → args[j]? = some v → Value.okWide Tryz.prog W .any base t v := hval0
  have hgd := good_of (by simp [Rows.meshAlongsRow]) (by kernel_rfl) hL hsh
  have hW' := hW
  obtain ⟨p, q, hA0, hV, rfl, _, _⟩ := hW
  have hA : DataW.TrodAll enc Tryz.prog W 0 (fun _ => true) true Tryz.f4.params.toList args.toList ds p := hA0
  rw [Tryz.params4] at hA hval
  obtain ⟨v0, v1, v2, d0, d1, d2, p0, p1, p2, rfl, rfl, _, _, _, _⟩ := trodAll_three hA
  obtain ⟨kz, s0, s1, half, rfl, hkz, hs0, hs1⟩ := open_sheet (hval 0 _ v0 rfl rfl)
  obtain ⟨x1, y1, rfl, hx1, hy1⟩ := open_b2 (hval 1 _ v1 rfl rfl)
  obtain ⟨x2, y2, rfl, hx2, hy2⟩ := open_b2 (hval 2 _ v2 rfl rfl)
  clear hA0 hval0 hA hval
  refine (meshAlongs_all W kz s0 s1 half x1 y1 x2 y2 hkz.1 hkz.2 hs0 hs1  hx1 hy1 hx2 hy2 hgd).mono ?_
  rintro e W' ⟨v, rfl, rfl, hbel⟩
  exact ⟨_, rfl, post_true laidOut hW' rfl boolT rfl (by kernel_rfl) rfl hbel⟩

theorem meshAlongs_holds : Rows.MeshAlongsSaid :=
  OpenClaim.holds_of_wide 4 Tryz.f4 rfl rfl rfl rfl rfl rfl rfl ⟨rfl, rfl, rfl, rfl, rfl⟩ rfl rfl rfl rfl rfl (by kernel_rfl) Tryz.func4 (by kernel_rfl)
    (of_decide_eq_true (by kernel_rfl)) (by unfold Func.isWrapper; first | (rw [if_pos (by decide +kernel)]; kernel_rfl) | (rw [if_neg (by decide +kernel)]; exact ⟨rfl, rfl⟩))
    (fun os started H enc _ => meshAlongs_lifted os started H enc)

theorem meshAlongs_card : Rows.MeshAlongsCardSaid :=
  Claim7.holds_tied_plain_at .later [] [.data, .data, .data, .sentinel, .sentinel] true Rows.meshAlongsCard.stood.harness true
    meshAlongs_holds (fun _ h => by cases h) (by kernel_rfl) (fun _ h => by cases h) meshAlongs_row_tie rfl ⟨rfl, rfl⟩ (by kernel_rfl) rfl
    (fun f fn hf hfn => by
      obtain rfl : f = 4 := Option.some.inj ((show Tryz.prog.funcNamed "klippe/klippelaw12.MeshAlongs" = some 4 by kernel_rfl).symm.trans hf) |>.symm
      obtain rfl : fn = Tryz.f4 := (Option.some.inj (Tryz.func4.symm.trans hfn)).symm
      exact ⟨by kernel_rfl, fun j t ht => by
        rw [Tryz.params4] at ht
        have hm : t ∈ [49, 47, 47] := by simpa using Array.mem_of_getElem? ht
        have hall : ([49, 47, 47].all fun u => !Tryz.prog.wantsStandIn u) = true := by kernel_rfl
        exact (show Tryz.prog.wantsStandIn t = false by simpa using List.all_eq_true.1 hall t hm)⟩)
    (by kernel_rfl)
#print axioms meshAlongs_card
end Go.Proofs.YtccngnjkehibiaaGreatDoor
