/- What MeshSpans needs beside: the middle of two numbers; sizes; where the middle of a span is found; parts of sums. -/
import Derived.Test.YtccngnjkehibiaaGreatDoorM31
import Derived.Test.YtccngnjkehibiaaGreatDoorM15
namespace Go.Proofs.YtccngnjkehibiaaGreatDoor
open Go.RowKit Go.Lib

theorem half_Sz : Sz 1 (1 / 2 : Rat) := ⟨by decide +kernel, by decide +kernel⟩
set_option maxHeartbeats 1000000 in
theorem ratMiddle_any (p q : Rat) (k : Nat) (hk : 0 < k) (hk2 : k ≤ 5000) (hp : Sz k p) (hq : Sz k q) (w : World) (hg : Good w) :
    Calls Tryz.prog 34 #[.string (RS p), .string (RS q)] w (Ret (fun v _ => v = .string (RS ((p + q) / 2))) w) := by
  have HP := Lib.hid hp
  have HQ := Lib.hid hq
  have HS : Hid (Sz (2 * k + 1) (p + q)) := (hp.add hq).mono (by omega)
  have HM : Hid (∀ w, Good w → Calls Tryz.prog 19 #[.string (RS (p + q)), .string ⟨#[49, 47, 50]⟩] w (Ret (fun v _ => v = .string (RS ((p + q) / 2))) w)) := fun w hg => by
    have h := ratMul_any (p + q) (1 / 2) (2 * k + 1) (by omega) (by omega) HS.out (half_Sz.mono (by omega)) w hg
    rw [RS_half] at h
    rw [show (p + q) / 2 = (p + q) * (1 / 2) by grind]
    exact h
  clear hp hq
  go_enter Tryz.func34, Tryz.ntmps34
  go_wp2_with fail
  refine (ratAdd_any p q k hk (by omega) HP.out HQ.out w hg).mono ?_
  rintro e w1 ⟨_, rfl, rfl, hb1⟩
  go_wp2_with fail
  refine (HM.out w1 (hg.below hb1)).mono ?_
  rintro e w2 ⟨_, rfl, rfl, hb2⟩
  go_wp2_with fail
  go_ret
  exact ⟨_, rfl, rfl, hb1.trans (hb2.mono hb1.size)⟩

theorem withinF_Sz88 {c0 c1 c2 a b : PtQ} {m : Nat} (z0 : SzP m c0) (z1 : SzP m c1) (z2 : SzP m c2) (za : SzP m a) (zb : SzP m b) {l : Rat × Rat} (h : withinF c0 c1 c2 a b = some l) : Sz (24 * m + 16) l.1 ∧ Sz (24 * m + 16) l.2 := by
  have step : ∀ i, i ≤ 3 → ∀ r, withinN c0 c1 c2 a b i = some r → Sz (24 * m + 16) r.1 ∧ Sz (24 * m + 16) r.2 := by
    intro i
    induction i with
    | zero => intro _ r hr; cases hr; exact ⟨Sz.zero _ (by omega), Sz.one.mono (by omega)⟩
    | succ i ih =>
      intro hi r hr
      rw [withinN_step _ _ _ _ _ i (by omega)] at hr
      cases hn : withinN c0 c1 c2 a b i with
      | none => rw [hn] at hr; cases hr
      | some l' =>
        rw [hn] at hr
        have hl := ih (by omega) l' hn
        rcases (by omega : i = 0 ∨ i = 1 ∨ i = 2) with rfl | rfl | rfl
        · exact wStep_Sz z0 z1 za zb hl hr
        · exact wStep_Sz z1 z2 za zb hl hr
        · exact wStep_Sz z2 z0 za zb hl hr
  unfold withinF at h
  cases hn : withinN c0 c1 c2 a b 3 with
  | none => rw [hn] at h; cases h
  | some l' =>
    rw [hn] at h
    simp only [Option.bind_some] at h
    split at h
    · cases h
      exact step 3 (by omega) _ hn
    · cases h
theorem along_Sz88 {k : Nat} {s0 s1 : Int} {half : Bool} {a b : PtQ} (hab : a ≠ b) (za : SzP 3 a) (zb : SzP 3 b) : ∀ s ∈ alongL (sheetP k s0 s1 half) (shapeT k) a b, Sz 88 s.2.1 ∧ Sz 88 s.2.2 := by
  intro s hs
  rw [sheet_along k s0 s1 half hab] at hs
  obtain ⟨t, ht, hw⟩ := spansN_iff (List.mem_of_find?_eq_some ((wantL_mem _ s).1 hs))
  obtain ⟨z0, z1, z2⟩ := ptI_SzP (sheet_ok k s0 s1 half) (List.mem_of_getElem? ht)
  exact withinF_Sz88 (m := 3) ⟨z0.1.mono (by omega), z0.2.mono (by omega)⟩ ⟨z1.1.mono (by omega), z1.2.mono (by omega)⟩ ⟨z2.1.mono (by omega), z2.2.mono (by omega)⟩ za zb hw
theorem along_len {k : Nat} {s0 s1 : Int} {half : Bool} {a b : PtQ} (hab : a ≠ b) : (alongL (sheetP k s0 s1 half) (shapeT k) a b).length ≤ (shapeT k).length := by
  rw [sheet_along k s0 s1 half hab]
  refine Nat.le_trans (m := (spansN (sheetP k s0 s1 half) (shapeT k) a b (shapeT k).length).length) ?_ (spansN_le _ _ a b (shapeT k).length)
  refine list_snoc (P := fun A => (wantL A).length ≤ A.length) (Nat.le_refl _) (fun A s h => ?_) _
  rw [wantL_snoc, List.length_append]
  unfold wantS
  split
  · exact Nat.le_trans h (Nat.le_add_right _ _)
  · rw [putS_len]; exact Nat.succ_le_succ h
theorem sumS_succ {L : List SpanQ} {n : Nat} {s : SpanQ} (h : L[n]? = some s) : sumS (L.take (n + 1)) = sumS (L.take n) + (s.2.2 - s.2.1) := by
  obtain ⟨hn, rfl⟩ := List.getElem?_eq_some_iff.1 h
  unfold sumS
  rw [List.take_succ_eq_append_getElem hn, List.foldl_append]
  rfl
theorem sumS_Sz {L : List SpanQ} (hz : ∀ s ∈ L, Sz 88 s.2.1 ∧ Sz 88 s.2.2) (n : Nat) : Sz (178 * n + 1) (sumS (L.take n)) := by
  induction n with
  | zero => exact Sz.zero 1 (by omega)
  | succ n ih =>
    cases h : L[n]? with
    | none =>
      have hl := List.getElem?_eq_none_iff.1 h
      rw [List.take_of_length_le (by omega), ← List.take_of_length_le (i := n) hl]
      exact ih.mono (by omega)
    | some s =>
      rw [sumS_succ h]
      have z := hz s (List.mem_of_getElem? h)
      exact (ih.add (z.2.sub z.1)).mono (by omega)
theorem turnZ_nn (a b c : PtQ) : 0 ≤ turnZ a b c ↔ 0 ≤ areaQ a b c := by
  unfold turnZ
  rw [sign_if]
  by_cases h : areaQ a b c < 0
  · rw [if_pos h]
    exact ⟨fun h2 => absurd h2 (by decide), fun h2 => absurd h (Rat.not_lt.2 h2)⟩
  · rw [if_neg h]
    exact ⟨fun _ => Rat.not_lt.1 h, fun _ => by split <;> decide⟩
theorem insideT_iff (P : List PtQ) (T : List Tri) (p : PtQ) (i : Nat) : insideT P T p i = true ↔ ∃ t, T[i]? = some t ∧ inT (triP P t) p := by
  unfold insideT
  cases h : T[i]? with
  | none => simp
  | some t =>
    simp only [Option.some.injEq, exists_eq_left']
    unfold insideB inT triP
    simp only [Bool.and_eq_true, decide_eq_true_eq, turnZ_nn]
    exact and_assoc
/-- The first triangle that has a place. -/
theorem locN_first {P : List PtQ} {T : List Tri} {p : PtQ} {i : Nat} (h1 : ∃ t, T[i]? = some t ∧ inT (triP P t) p) (h2 : ∀ j t, j < i → T[j]? = some t → ¬ inT (triP P t) p) : ∃ l, locN P T p T.length = (i : Int) :: l := by
  have hi : i < T.length := by obtain ⟨t, ht, _⟩ := h1; exact (List.getElem?_eq_some_iff.1 ht).1
  have hf : ((List.range T.length).filter (insideT P T p)).head? = some i := by
    rw [List.head?_filter, List.find?_range_eq_some]
    refine ⟨(insideT_iff P T p i).2 h1, List.mem_range.2 hi, fun j hj => ?_⟩
    cases hb : insideT P T p j with
    | false => rfl
    | true =>
      obtain ⟨t, ht, hin⟩ := (insideT_iff P T p j).1 hb
      exact absurd hin (h2 j t hj ht)
  unfold locN
  cases hl : (List.range T.length).filter (insideT P T p) with
  | nil => rw [hl] at hf; cases hf
  | cons x l =>
    rw [hl] at hf
    cases hf
    exact ⟨_, List.map_cons⟩
theorem locN_in (P : List PtQ) (T : List Tri) (p : PtQ) : (0 : Int) < ((locN P T p T.length).length : Int) ↔ sheetIn P T p := by
  have h : 0 < (locN P T p T.length).length ↔ sheetIn P T p := by
    unfold locN
    rw [List.length_map]
    constructor
    · intro h
      obtain ⟨i, hi⟩ := List.exists_mem_of_length_pos h
      obtain ⟨_, hi⟩ := List.mem_filter.1 hi
      obtain ⟨t, ht, hin⟩ := (insideT_iff P T p i).1 hi
      exact ⟨t, List.mem_of_getElem? ht, hin⟩
    · rintro ⟨t, ht, hin⟩
      obtain ⟨i, hi, rfl⟩ := List.mem_iff_getElem.1 ht
      exact List.length_pos_of_mem (List.mem_filter.2 ⟨List.mem_range.2 hi, (insideT_iff P T p i).2 ⟨_, List.getElem?_eq_getElem hi, hin⟩⟩)
  rw [← h]; omega

end Go.Proofs.YtccngnjkehibiaaGreatDoor
