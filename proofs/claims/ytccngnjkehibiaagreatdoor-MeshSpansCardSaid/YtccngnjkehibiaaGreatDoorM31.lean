/- Plain: the spans of a segment and of its way back; their middles; the whole segment. -/
import Derived.Test.YtccngnjkehibiaaGreatDoorM29
namespace Go.Proofs.YtccngnjkehibiaaGreatDoor
open Go.RowKit Go.Lib

/-! A segment's way back. -/
theorem atT_flip (a b : PtQ) (t : Rat) : atT b a t = atT a b (1 - t) := by
  unfold atT
  exact Prod.ext (by dsimp only; grind) (by dsimp only; grind)
def flipR (l : Rat × Rat) : Rat × Rat := (1 - l.2, 1 - l.1)
theorem within_sp (c : TriP) (a b : PtQ) : (∃ l, withinF c.1 c.2.1 c.2.2 a b = some l ∧ l.1 < l.2 ∧ ∀ t, (l.1 ≤ t ∧ t ≤ l.2) ↔ ((0 ≤ t ∧ t ≤ 1) ∧ inT c (atT a b t))) ∨
    (withinF c.1 c.2.1 c.2.2 a b = none ∧ ∀ t t', t < t' → (0 ≤ t ∧ t ≤ 1) → (0 ≤ t' ∧ t' ≤ 1) → inT c (atT a b t) → inT c (atT a b t') → False) := by
  rw [withinF_cut]
  rcases (withinN_sp c.1 c.2.1 c.2.2 a b).cut with ⟨l, h1, h2, h3⟩ | ⟨h1, h2⟩
  · exact .inl ⟨l, h1, h2, fun t => by rw [h3 t, onB_in]⟩
  · exact .inr ⟨h1, fun t t' h3 h4 h5 h6 h7 => h2 t t' h3 h4 h5 ((onB_in c a b t).2 h6) ((onB_in c a b t').2 h7)⟩
theorem within_flip (c : TriP) (a b : PtQ) : withinF c.1 c.2.1 c.2.2 b a = (withinF c.1 c.2.1 c.2.2 a b).map flipR := by
  rcases within_sp c a b with ⟨l, h1, h2, h3⟩ | ⟨h1, h2⟩ <;> rcases within_sp c b a with ⟨l', g1, g2, g3⟩ | ⟨g1, g2⟩
  · rw [h1, g1]
    have := iv_eq g2 (show 1 - l.2 < 1 - l.1 by grind) fun t => by
      rw [g3 t, atT_flip]
      have := h3 (1 - t)
      constructor
      · intro x
        have := this.2 ⟨by grind, x.2⟩
        grind
      · intro x
        have := this.1 ⟨by grind, by grind⟩
        exact ⟨by grind, this.2⟩
    show some l' = some (flipR l)
    rw [show l' = flipR l from Prod.ext this.1 this.2]
  · exfalso
    have k1 := (h3 l.1).1 ⟨Rat.le_refl, Rat.le_of_lt h2⟩
    have k2 := (h3 l.2).1 ⟨Rat.le_of_lt h2, Rat.le_refl⟩
    refine g2 (1 - l.2) (1 - l.1) (by grind) (by grind) (by grind) ?_ ?_
    · rw [atT_flip, show 1 - (1 - l.2) = l.2 by grind]; exact k2.2
    · rw [atT_flip, show 1 - (1 - l.1) = l.1 by grind]; exact k1.2
  · exfalso
    have k1 := (g3 l'.1).1 ⟨Rat.le_refl, Rat.le_of_lt g2⟩
    have k2 := (g3 l'.2).1 ⟨Rat.le_of_lt g2, Rat.le_refl⟩
    rw [atT_flip] at k1 k2
    exact h2 (1 - l'.2) (1 - l'.1) (by grind) (by grind) (by grind) k2.2 k1.2
  · rw [h1, g1]; rfl
def flipS (s : SpanQ) : SpanQ := (s.1, flipR s.2)
theorem flipS_flip (s : SpanQ) : flipS (flipS s) = s := by
  unfold flipS flipR
  refine Prod.ext rfl (Prod.ext ?_ ?_) <;> (dsimp only; grind)
theorem spanAt_flip (P : List PtQ) (T : List Tri) (a b : PtQ) (i : Nat) : spanAt P T b a i = (spanAt P T a b i).map flipS := by
  unfold spanAt
  cases T[i]? with
  | none => rfl
  | some tr =>
    dsimp only
    have := within_flip (triP P tr) a b
    unfold triP at this
    dsimp only at this
    rw [this]
    cases withinF (ptI P tr.1) (ptI P tr.2.1) (ptI P tr.2.2) a b with
    | none => rfl
    | some l => rfl
theorem spansN_flip (P : List PtQ) (T : List Tri) (a b : PtQ) (n : Nat) : spansN P T b a n = (spansN P T a b n).map flipS := by
  induction n with
  | zero => rfl
  | succ n ih => rw [spansN_succ, spansN_succ, List.map_append, ih, spanAt_flip]
theorem OKs.to_from {A : List SpanQ} (h : OKs A) {s t : SpanQ} (hs : s ∈ A) (ht : t ∈ A) : s.2.2 = t.2.2 ↔ s.2.1 = t.2.1 := by
  have p1 := h.pos s hs
  have p2 := h.pos t ht
  rcases h.dis s hs t ht with e | e | e
  · rw [e]; exact ⟨fun _ => rfl, fun _ => rfl⟩
  · constructor <;> intro h2 <;> grind
  · constructor <;> intro h2 <;> grind
theorem firF_flip {A : List SpanQ} (h : OKs A) {s : SpanQ} (hs : s ∈ A) : firF (A.map flipS) (1 - s.2.2) = (firF A s.2.1).map flipS := by
  unfold firF
  rw [List.find?_map]
  congr 1
  refine find_congr fun t ht => ?_
  show decide (1 - t.2.2 = 1 - s.2.2) = decide (t.2.1 = s.2.1)
  refine decide_eq_decide.2 ?_
  rw [← h.to_from ht hs]
  constructor <;> intro h2 <;> grind
theorem wantL_flip {A : List SpanQ} (h : OKs A) : wantL (A.map flipS) = ((wantL A).map flipS).reverse := by
  have inA : ∀ s ∈ wantL A, s ∈ A := fun s hs => List.mem_of_find?_eq_some ((wantL_mem A s).1 hs)
  refine ltF_unique (wantL_pw _) ?_ fun r => ?_
  · rw [List.pairwise_reverse, List.pairwise_map]
    refine (wantL_pw A).imp_of_mem fun {s t} hs ht hst => ?_
    show 1 - t.2.2 < 1 - s.2.2
    have p1 := h.pos s (inA s hs)
    have p2 := h.pos t (inA t ht)
    unfold ltF at hst
    rcases h.dis s (inA s hs) t (inA t ht) with e | e | e
    · rw [e] at hst; exact absurd hst Rat.lt_irrefl
    · grind
    · grind
  · rw [wantL_mem, List.mem_reverse, List.mem_map]
    constructor
    · intro hr
      obtain ⟨s, hs, rfl⟩ := List.mem_map.1 (List.mem_of_find?_eq_some hr)
      refine ⟨s, ?_, rfl⟩
      rw [wantL_mem]
      change firF (A.map flipS) (1 - s.2.2) = _ at hr
      rw [firF_flip h hs] at hr
      cases hf : firF A s.2.1 with
      | none => rw [hf] at hr; cases hr
      | some s' =>
        rw [hf] at hr
        have e := Option.some.inj hr
        rw [← flipS_flip s', e, flipS_flip]
    · rintro ⟨s, hs, rfl⟩
      show firF (A.map flipS) (1 - s.2.2) = _
      rw [firF_flip h (inA s hs), (wantL_mem A s).1 hs]
      rfl

/-! The middle of a span lies in no triangle ahead. -/
theorem aff_zero {u v lo k hi : Rat} (h1 : lo < k) (h2 : k < hi) (hl : 0 ≤ affQ u v lo) (hh : 0 ≤ affQ u v hi) (h0 : affQ u v k = 0) : u = 0 ∧ v = 0 := by
  unfold affQ at *
  have hv : v - u = 0 := by
    refine Rat.le_antisymm (Rat.not_lt.1 fun h => ?_) (Rat.not_lt.1 fun h => ?_)
    · have := Rat.mul_pos (show 0 < k - lo by grind) h
      grind
    · have := Rat.mul_pos (show 0 < hi - k by grind) (show 0 < -(v - u) by grind)
      grind
  rw [hv] at h0
  exact ⟨by grind, by grind⟩
theorem corner_extreme {A : TriP} (hA : 0 < dT A) {a b : PtQ} (hab : a ≠ b) {lo k hi : Rat} (h1 : lo < k) (h2 : k < hi) (hl : inT A (atT a b lo)) (hh : inT A (atT a b hi)) (hk : atT a b k = A.1) : False := by
  obtain ⟨l1, l2, l3⟩ := hl
  obtain ⟨g1, g2, g3⟩ := hh
  have z1 : affQ (areaQ A.1 A.2.1 a) (areaQ A.1 A.2.1 b) k = 0 := by rw [area_at, hk, area_self1]
  have z3 : affQ (areaQ A.2.2 A.1 a) (areaQ A.2.2 A.1 b) k = 0 := by rw [area_at, hk, area_self2]
  rw [← area_at] at l1 l3 g1 g3
  obtain ⟨e1, e2⟩ := aff_zero h1 h2 l1 g1 z1
  obtain ⟨e3, e4⟩ := aff_zero h1 h2 l3 g3 z3
  have key : ∀ x : PtQ, areaQ A.1 A.2.1 x = 0 → areaQ A.2.2 A.1 x = 0 → x = A.1 := fun x y1 y2 => corner_eq (B := rotT A) (by rw [dT_rot]; exact hA) y2 y1
  exact hab ((key a e1 e3).trans (key b e2 e4).symm)
theorem corner_any {A : TriP} (hA : 0 < dT A) {a b : PtQ} (hab : a ≠ b) {lo k hi : Rat} (h1 : lo < k) (h2 : k < hi) (hl : inT A (atT a b lo)) (hh : inT A (atT a b hi)) (hk : atT a b k = A.1 ∨ atT a b k = A.2.1 ∨ atT a b k = A.2.2) : False := by
  rcases hk with hk | hk | hk
  · exact corner_extreme hA hab h1 h2 hl hh hk
  · exact corner_extreme (A := rotT A) (by rw [dT_rot]; exact hA) hab h1 h2 ((inT_rot _ _).2 hl) ((inT_rot _ _).2 hh) hk
  · exact corner_extreme (A := rotT (rotT A)) (by rw [dT_rot, dT_rot]; exact hA) hab h1 h2 ((inT_rot _ _).2 ((inT_rot _ _).2 hl)) ((inT_rot _ _).2 ((inT_rot _ _).2 hh)) hk
theorem mid_join {A B : TriP} (hA : 0 < dT A) (hB : 0 < dT B) (h : joinB1 A B = true) {a b : PtQ} {lo k hi : Rat} (h1 : lo < k) (h2 : k < hi) (hl : inT A (atT a b lo)) (hh : inT A (atT a b hi)) (ka : inT A (atT a b k)) (kb : inT B (atT a b k)) (t : Rat) :
    inT A (atT a b t) ↔ inT B (atT a b t) := by
  have hz : areaQ A.1 A.2.1 (atT a b k) = 0 := by
    have h3 := h
    unfold joinB1 at h3
    simp only [Bool.and_eq_true, decide_eq_true_eq] at h3
    have h4 := kb.1
    rw [h3.1, h3.2, area_swap] at h4
    have h5 := ka.1
    grind
  have l1 := hl.1
  have g1 := hh.1
  rw [← area_at] at hz l1 g1
  obtain ⟨e1, e2⟩ := aff_zero h1 h2 l1 g1 hz
  refine join_eq hA hB h ?_
  rw [← area_at, e1, e2]
  unfold affQ; grind
theorem mid_same {A B : TriP} (hA : 0 < dT A) (hB : 0 < dT B) (h : apartB A B = true ∨ apartB B A = true) {a b : PtQ} (hab : a ≠ b) {lo k hi : Rat} (h1 : lo < k) (h2 : k < hi) (hl : inT A (atT a b lo)) (hh : inT A (atT a b hi)) (ka : inT A (atT a b k)) (kb : inT B (atT a b k)) :
    ∀ t, inT A (atT a b t) ↔ inT B (atT a b t) := by
  rcases h with h | h
  · unfold apartB at h
    rw [List.any_eq_true] at h
    obtain ⟨A', hA', h⟩ := h
    rw [List.any_eq_true] at h
    obtain ⟨B', hB', h⟩ := h
    obtain ⟨iA, dA⟩ := rots_in hA'
    obtain ⟨iB, dB⟩ := rots_in hB'
    rw [← dA] at hA
    rw [← dB] at hB
    rw [← iA] at hl hh ka
    rw [← iB] at kb
    intro t
    rw [← iA, ← iB]
    rcases (by rw [Bool.or_eq_true] at h; exact h) with h | h
    · obtain ⟨e1, e2⟩ := sep_out hB h ka kb
      refine (corner_any hA hab h1 h2 hl hh ?_).elim
      rw [e1]
      exact e2.imp id .inl
    · exact mid_join hA hB h h1 h2 hl hh ka kb t
  · unfold apartB at h
    rw [List.any_eq_true] at h
    obtain ⟨B', hB', h⟩ := h
    rw [List.any_eq_true] at h
    obtain ⟨A', hA', h⟩ := h
    obtain ⟨iA, dA⟩ := rots_in hA'
    obtain ⟨iB, dB⟩ := rots_in hB'
    rw [← dA] at hA
    rw [← dB] at hB
    rw [← iA] at hl hh ka
    rw [← iB] at kb
    intro t
    rw [← iA, ← iB]
    rcases (by rw [Bool.or_eq_true] at h; exact h) with h | h
    · obtain ⟨e1, _⟩ := sep_out hA h kb ka
      exact (corner_any hA hab h1 h2 hl hh (.inr (.inr e1))).elim
    · have h' : joinB1 A' B' = true := by
        unfold joinB1 at *
        simp only [Bool.and_eq_true, decide_eq_true_eq] at *
        exact ⟨h.2.symm, h.1.symm⟩
      exact mid_join hA hB h' h1 h2 hl hh ka kb t
theorem meshSep_pair {P : List PtQ} {T : List Tri} (hs : meshSep P T = true) {i j : Nat} (hij : i ≠ j) {t1 t2 : Tri} (h1 : T[i]? = some t1) (h3 : T[j]? = some t2) : apartB (triP P t1) (triP P t2) = true ∨ apartB (triP P t2) (triP P t1) = true := by
  have l1 := (List.getElem?_eq_some_iff.1 h1).1
  have l2 := (List.getElem?_eq_some_iff.1 h3).1
  unfold meshSep at hs
  rw [List.all_eq_true] at hs
  rcases Nat.lt_or_gt_of_ne hij with hlt | hlt
  · have := List.all_eq_true.1 (hs j (List.mem_range.2 l2)) i (List.mem_range.2 hlt)
    rw [h1, h3, Bool.or_eq_true] at this
    exact this
  · have := List.all_eq_true.1 (hs i (List.mem_range.2 l1)) j (List.mem_range.2 hlt)
    rw [h1, h3, Bool.or_eq_true] at this
    exact this.symm
theorem firF_first {P : List PtQ} {T : List Tri} {a b : PtQ} {x : Rat} (n : Nat) : ∀ s, firF (spansN P T a b n) x = some s → ∀ r ∈ spansN P T a b n, r.2.1 = x → s.1 ≤ r.1 := by
  have hlt : ∀ n, ∀ r ∈ spansN P T a b n, r.1 < n := fun n r hr => by
    unfold spansN at hr
    obtain ⟨i, hi, h⟩ := List.mem_flatMap.1 hr
    rw [(spanAt_iff h).1]
    exact List.mem_range.1 hi
  induction n with
  | zero => intro s h; cases h
  | succ n ih =>
    intro s h r hr hx
    rw [spansN_succ] at h hr
    unfold firF at h
    rw [List.find?_append] at h
    cases hf : firF (spansN P T a b n) x with
    | some s' =>
      have hs' : s' = s := by
        unfold firF at hf
        rw [hf] at h
        exact Option.some.inj h
      subst hs'
      rcases List.mem_append.1 hr with hr | hr
      · exact ih _ hf r hr hx
      · rw [(spanAt_iff hr).1]
        exact Nat.le_of_lt (hlt n _ (List.mem_of_find?_eq_some hf))
    | none =>
      unfold firF at hf
      rw [hf, Option.none_or] at h
      rw [(spanAt_iff (List.mem_of_find?_eq_some h)).1]
      rcases List.mem_append.1 hr with hr | hr
      · exact absurd (decide_eq_true hx) (List.find?_eq_none.1 hf r hr)
      · rw [(spanAt_iff hr).1]; exact Nat.le_refl _
theorem spans_mem {P : List PtQ} {T : List Tri} {a b : PtQ} {n i : Nat} {t : Tri} {l : Rat × Rat} (hi : i < n) (ht : T[i]? = some t) (h : withinF (ptI P t.1) (ptI P t.2.1) (ptI P t.2.2) a b = some l) : ((i, l) : SpanQ) ∈ spansN P T a b n := by
  unfold spansN
  refine List.mem_flatMap.2 ⟨i, List.mem_range.2 hi, ?_⟩
  rw [spanAt_some ht h]
  simp
/-- The middle of a span lies in its triangle, and in none ahead. -/
theorem mid_first {P : List PtQ} {T : List Tri} (hd : ∀ t ∈ T, 0 < dT (triP P t)) (hs : meshSep P T = true) {a b : PtQ} (hab : a ≠ b) {s : SpanQ} (h : s ∈ wantL (spansN P T a b T.length)) {k : Rat} (h1 : s.2.1 < k) (h2 : k < s.2.2) :
    (∃ t, T[s.1]? = some t ∧ inT (triP P t) (atT a b k)) ∧ ∀ j t, j < s.1 → T[j]? = some t → ¬ inT (triP P t) (atT a b k) := by
  have hf := (wantL_mem _ s).1 h
  have hm := List.mem_of_find?_eq_some hf
  obtain ⟨t, ht, hw⟩ := spansN_iff hm
  obtain ⟨p1, q1⟩ := span_in (c := triP P t) hw
  have hk := ((q1 k).1 ⟨Rat.le_of_lt h1, Rat.le_of_lt h2⟩)
  refine ⟨⟨t, ht, hk.2⟩, fun j u hj hu hin => ?_⟩
  have hl := (q1 s.2.1).1 ⟨Rat.le_refl, Rat.le_of_lt p1⟩
  have hh := (q1 s.2.2).1 ⟨Rat.le_of_lt p1, Rat.le_refl⟩
  have hall := mid_same (hd t (List.mem_of_getElem? ht)) (hd u (List.mem_of_getElem? hu)) (meshSep_pair hs (by omega) ht hu) hab h1 h2 hl.2 hh.2 hk.2 hin
  have hwu := within_congr hall
  unfold triP at hwu
  dsimp only at hwu
  rw [hw] at hwu
  have := firF_first T.length s hf (j, s.2) (spans_mem (List.getElem?_eq_some_iff.1 hu).1 hu hwu.symm) rfl
  have : s.1 ≤ j := this
  omega

/-! The whole segment, if both its ends are in the sheet. -/
def sumS (L : List SpanQ) : Rat := L.foldl (fun r s => r + (s.2.2 - s.2.1)) 0
theorem no_gap {n : Nat} : ∀ (C : Nat → Rat → Prop) (x y : Rat), x < y → (∀ t, x < t → t < y → ∃ i, i < n ∧ C i t) → ∃ i, i < n ∧ ∃ t t', x < t ∧ t < t' ∧ t' < y ∧ C i t ∧ C i t' := by
  induction n with
  | zero =>
    intro C x y hxy h
    obtain ⟨i, hi, _⟩ := h ((x + y) / 2) (by grind) (by grind)
    exact absurd hi (Nat.not_lt_zero _)
  | succ n ih =>
    intro C x y hxy h
    rcases Classical.em (∃ t t', x < t ∧ t < t' ∧ t' < y ∧ C n t ∧ C n t') with hn | hn
    · exact ⟨n, by omega, hn⟩
    · have hsub : ∃ x' y', x ≤ x' ∧ x' < y' ∧ y' ≤ y ∧ ∀ t, x' < t → t < y' → ¬ C n t := by
        rcases Classical.em (∃ p, x < p ∧ p < y ∧ C n p) with ⟨p, hp1, hp2, hp⟩ | hp
        · refine ⟨x, p, Rat.le_refl, hp1, Rat.le_of_lt hp2, fun t h1 h2 hc => hn ⟨t, p, h1, h2, hp2, hc, hp⟩⟩
        · exact ⟨x, y, Rat.le_refl, hxy, Rat.le_refl, fun t h1 h2 hc => hp ⟨t, h1, h2, hc⟩⟩
      obtain ⟨x', y', hx, hxy', hy, hno⟩ := hsub
      obtain ⟨i, hi, t, t', g1, g2, g3, g4⟩ := ih C x' y' hxy' fun t h1 h2 => by
        obtain ⟨i, hi, hc⟩ := h t (by grind) (by grind)
        by_cases e : i = n
        · subst e; exact absurd hc (hno t h1 h2)
        · exact ⟨i, by omega, hc⟩
      exact ⟨i, by omega, t, t', by grind, g2, by grind, g4⟩
/-- Spans in order, without gaps, have the length of the whole. -/
theorem sum_whole : ∀ (L : List SpanQ) (z r : Rat), (∀ s ∈ L, s.2.1 < s.2.2 ∧ z ≤ s.2.1 ∧ s.2.2 ≤ 1) → L.Pairwise (fun s t => s.2.2 ≤ t.2.1) → z ≤ 1 →
    (∀ x y, z ≤ x → x < y → y ≤ 1 → ∃ s ∈ L, s.2.1 < y ∧ x < s.2.2) → L.foldl (fun r s => r + (s.2.2 - s.2.1)) r = r + (1 - z)
  | [], z, r, _, _, hz, hg => by
    rcases (by grind : z = 1 ∨ z < 1) with e | e
    · subst e; show r = _; grind
    · obtain ⟨s, hs, _⟩ := hg z 1 Rat.le_refl e Rat.le_refl
      exact absurd hs List.not_mem_nil
  | s :: L, z, r, h1, h2, hz, hg => by
    have hs := h1 s (by simp)
    rw [List.pairwise_cons] at h2
    have hsz : s.2.1 = z := by
      refine Rat.le_antisymm (Rat.not_lt.1 fun h => ?_) hs.2.1
      obtain ⟨u, hu, g1, g2⟩ := hg z s.2.1 Rat.le_refl h (by grind)
      rcases List.mem_cons.1 hu with rfl | hu
      · exact Rat.lt_irrefl g1
      · have := h2.1 u hu
        grind
    rw [List.foldl_cons, sum_whole L s.2.2 _ (fun u hu => ⟨(h1 u (by simp [hu])).1, h2.1 u hu, (h1 u (by simp [hu])).2.2⟩) h2.2 hs.2.2 (fun x y g1 g2 g3 => ?_), hsz]
    · grind
    · obtain ⟨u, hu, k1, k2⟩ := hg x y (by grind) g2 g3
      rcases List.mem_cons.1 hu with rfl | hu
      · grind
      · exact ⟨u, hu, k1, k2⟩
theorem cover_sum {P : List PtQ} {T : List Tri} (hd : ∀ t ∈ T, 0 < dT (triP P t)) (hs : meshSep P T = true) {a b : PtQ} (hab : a ≠ b) (hc : ∀ t, 0 ≤ t → t ≤ 1 → ∃ tr ∈ T, inT (triP P tr) (atT a b t)) :
    sumS (wantL (spansN P T a b T.length)) = 1 := by
  have hok := spans_ok hd hs hab T.length
  have inA : ∀ s ∈ wantL (spansN P T a b T.length), s ∈ spansN P T a b T.length := fun s hs => List.mem_of_find?_eq_some ((wantL_mem _ s).1 hs)
  have hin : ∀ s ∈ wantL (spansN P T a b T.length), s.2.1 < s.2.2 ∧ 0 ≤ s.2.1 ∧ s.2.2 ≤ 1 := fun s hs => by
    obtain ⟨t, ht, hw⟩ := spansN_iff (inA s hs)
    obtain ⟨p, q⟩ := span_in (c := triP P t) hw
    have q1 := (q s.2.1).1 ⟨Rat.le_refl, Rat.le_of_lt p⟩
    have q2 := (q s.2.2).1 ⟨Rat.le_of_lt p, Rat.le_refl⟩
    exact ⟨p, q1.1.1, q2.1.2⟩
  unfold sumS
  rw [sum_whole _ 0 0 hin ?_ (by decide) ?_]
  · grind
  · refine (wantL_pw _).imp_of_mem fun {s t} hs ht hst => ?_
    have p1 := hok.pos s (inA s hs)
    have p2 := hok.pos t (inA t ht)
    unfold ltF at hst
    rcases hok.dis s (inA s hs) t (inA t ht) with e | e | e
    · rw [e] at hst; exact absurd hst Rat.lt_irrefl
    · exact e
    · grind
  · intro x y hx hxy hy
    obtain ⟨i, hi, t, t', g1, g2, g3, g4, g5⟩ := no_gap (n := T.length) (fun i t => ∃ tr, T[i]? = some tr ∧ inT (triP P tr) (atT a b t)) x y hxy fun t h1 h2 => by
      obtain ⟨tr, htr, hin⟩ := hc t (by grind) (by grind)
      obtain ⟨i, hi, rfl⟩ := List.mem_iff_getElem.1 htr
      exact ⟨i, hi, T[i], List.getElem?_eq_getElem hi, hin⟩
    obtain ⟨tr, htr, q1⟩ := g4
    obtain ⟨tr', htr', q2⟩ := g5
    rw [htr] at htr'
    cases htr'
    rcases within_sp (triP P tr) a b with ⟨l, w1, w2, w3⟩ | ⟨w1, w2⟩
    · have hmem := spans_mem (n := T.length) hi htr w1
      have k1 := (w3 t).2 ⟨⟨by grind, by grind⟩, q1⟩
      have k2 := (w3 t').2 ⟨⟨by grind, by grind⟩, q2⟩
      cases hf : firF (spansN P T a b T.length) l.1 with
      | none => exact absurd (decide_eq_true rfl) (List.find?_eq_none.1 hf _ hmem)
      | some s =>
        have hsx := firF_x hf
        have hsm : s ∈ spansN P T a b T.length := List.mem_of_find?_eq_some hf
        have hto : s.2.2 = l.2 := (hok.to_from hsm hmem).2 hsx
        refine ⟨s, (wantL_mem _ s).2 (by rw [hsx]; exact hf), ?_, ?_⟩
        · rw [hsx]; grind
        · rw [hto]; grind
    · exact (w2 t t' g2 ⟨by grind, by grind⟩ ⟨by grind, by grind⟩ q1 q2).elim

/-! The sheets are convex. -/
def bordK : Nat → List (Int × Int)
  | 0 => [(0, 1), (1, 2), (2, 3), (3, 0)]
  | 1 => [(0, 1), (1, 2), (2, 3), (3, 0)]
  | 2 => [(0, 1), (1, 2), (2, 3), (3, 0)]
  | 3 => [(0, 1), (1, 2), (2, 0)]
  | 4 => [(0, 2), (2, 5), (5, 3), (3, 0)]
  | 5 => [(3, 2), (2, 1), (1, 0), (0, 3)]
  | 6 => [(0, 1), (1, 2), (2, 3), (3, 0)]
  | _ => [(0, 1), (1, 2), (2, 0)]
def hullIn (P : List PtQ) (E : List (Int × Int)) (x : PtQ) : Prop := ∀ e ∈ E, 0 ≤ areaQ (ptI P e.1) (ptI P e.2) x
def sheetIn (P : List PtQ) (T : List Tri) (x : PtQ) : Prop := ∃ t ∈ T, inT (triP P t) x
set_option maxHeartbeats 2000000 in
theorem shape_hull (k : Nat) (x : PtQ) : sheetIn (shapeQ k) (shapeT k) x ↔ hullIn (shapeQ k) (bordK k) x := by
  obtain ⟨x, y⟩ := x
  unfold shapeT bordK shapeQ shapeP sheetIn hullIn inT triP ptI areaQ
  split <;> simp <;> grind
theorem inT_move (s t d : Rat) (hd : 0 < d) (c : TriP) (x : PtQ) : inT (movT s t d c) (moveP s t d x) ↔ inT c x := by
  have hdd := Rat.mul_pos hd hd
  have key : ∀ z : Rat, 0 ≤ d * d * z ↔ 0 ≤ z := fun z => by
    constructor
    · intro h
      refine Rat.not_lt.1 fun h2 => ?_
      have := mul_neg_of hdd h2
      grind
    · exact fun h => Rat.mul_nonneg (Rat.le_of_lt hdd) h
  unfold inT movT
  dsimp only
  rw [areaQ_move, areaQ_move, areaQ_move, key, key, key]
theorem moveP_back (s t d : Rat) (hd : 0 < d) (x : PtQ) : ∃ y, x = moveP s t d y := by
  refine ⟨(x.1 / d - s, x.2 / d - t), ?_⟩
  have h : ∀ z : Rat, z / d * d = z := fun z => Rat.div_mul_cancel (fun e => by rw [e] at hd; exact Rat.lt_irrefl hd)
  have h1 := h x.1
  have h2 := h x.2
  unfold moveP
  exact Prod.ext (by dsimp only; grind) (by dsimp only; grind)
theorem atT_move (s t d : Rat) (a b : PtQ) (k : Rat) : atT (moveP s t d a) (moveP s t d b) k = moveP s t d (atT a b k) := by
  unfold atT moveP
  exact Prod.ext (by dsimp only; grind) (by dsimp only; grind)
theorem sheetIn_move (s t d : Rat) (hd : 0 < d) (P : List PtQ) (T : List Tri) (hx : ∀ t ∈ T, ∀ x ∈ idxOf t, 0 ≤ x ∧ x < (P.length : Int)) (x : PtQ) : sheetIn (P.map (moveP s t d)) T (moveP s t d x) ↔ sheetIn P T x := by
  unfold sheetIn
  constructor
  · rintro ⟨tr, htr, h⟩
    rw [triP_move s t d P T hx tr htr, inT_move s t d hd] at h
    exact ⟨tr, htr, h⟩
  · rintro ⟨tr, htr, h⟩
    refine ⟨tr, htr, ?_⟩
    rw [triP_move s t d P T hx tr htr, inT_move s t d hd]
    exact h
theorem sheet_cover (k : Nat) (s0 s1 : Int) (half : Bool) {a b : PtQ} (ha : sheetIn (sheetP k s0 s1 half) (shapeT k) a) (hb : sheetIn (sheetP k s0 s1 half) (shapeT k) b) (t : Rat) (h0 : 0 ≤ t) (h1 : t ≤ 1) : sheetIn (sheetP k s0 s1 half) (shapeT k) (atT a b t) := by
  have hx := (sheet_ok k s0 s1 half).idx
  rw [sheetP_length, show (shapeP k).length = (shapeQ k).length by simp [shapeQ]] at hx
  rw [sheetP_move] at *
  have hd : (0 : Rat) < 1 / (halfD half : Rat) := by cases half <;> decide +kernel
  obtain ⟨a', rfl⟩ := moveP_back (s0.tmod 8 : Int) (s1.tmod 8 : Int) _ hd a
  obtain ⟨b', rfl⟩ := moveP_back (s0.tmod 8 : Int) (s1.tmod 8 : Int) _ hd b
  rw [atT_move, sheetIn_move _ _ _ hd _ _ hx, shape_hull]
  rw [sheetIn_move _ _ _ hd _ _ hx, shape_hull] at ha hb
  intro e he
  rw [← area_at]
  exact aff_between h0 h1 (ha e he) (hb e he)
/-- What MeshSpans says of the list, in one. -/
theorem sheet_spans (k : Nat) (s0 s1 : Int) (half : Bool) {a b : PtQ} (hab : a ≠ b) :
    alongL (sheetP k s0 s1 half) (shapeT k) b a = ((alongL (sheetP k s0 s1 half) (shapeT k) a b).map flipS).reverse ∧
    (∀ s ∈ alongL (sheetP k s0 s1 half) (shapeT k) a b, s.2.1 < s.2.2 ∧ 0 ≤ s.2.1 ∧ s.2.2 ≤ 1) ∧
    (alongL (sheetP k s0 s1 half) (shapeT k) a b).Pairwise (fun s t => s.2.2 ≤ t.2.1) ∧
    (∀ s ∈ alongL (sheetP k s0 s1 half) (shapeT k) a b, (∃ t, (shapeT k)[s.1]? = some t ∧ inT (triP (sheetP k s0 s1 half) t) (atT a b ((s.2.1 + s.2.2) / 2))) ∧ ∀ j t, j < s.1 → (shapeT k)[j]? = some t → ¬ inT (triP (sheetP k s0 s1 half) t) (atT a b ((s.2.1 + s.2.2) / 2))) ∧
    (sheetIn (sheetP k s0 s1 half) (shapeT k) a → sheetIn (sheetP k s0 s1 half) (shapeT k) b → sumS (alongL (sheetP k s0 s1 half) (shapeT k) a b) = 1) := by
  have hd := mesh_dT (sheet_ok k s0 s1 half)
  have hs := sheet_sep k s0 s1 half
  have hok := spans_ok hd hs hab (shapeT k).length
  have hf : alongL (sheetP k s0 s1 half) (shapeT k) b a = ((alongL (sheetP k s0 s1 half) (shapeT k) a b).map flipS).reverse := by
    rw [sheet_along k s0 s1 half hab, sheet_along k s0 s1 half (fun e => hab e.symm), spansN_flip, wantL_flip hok]
  rw [hf]
  rw [sheet_along k s0 s1 half hab]
  have inA : ∀ s ∈ wantL (spansN (sheetP k s0 s1 half) (shapeT k) a b (shapeT k).length), s ∈ spansN (sheetP k s0 s1 half) (shapeT k) a b (shapeT k).length := fun s hs => List.mem_of_find?_eq_some ((wantL_mem _ s).1 hs)
  have hpos : ∀ s ∈ wantL (spansN (sheetP k s0 s1 half) (shapeT k) a b (shapeT k).length), s.2.1 < s.2.2 ∧ 0 ≤ s.2.1 ∧ s.2.2 ≤ 1 := fun s hs => by
    obtain ⟨t, ht, hw⟩ := spansN_iff (inA s hs)
    obtain ⟨p, q⟩ := span_in (c := triP _ t) hw
    have q1 := (q s.2.1).1 ⟨Rat.le_refl, Rat.le_of_lt p⟩
    have q2 := (q s.2.2).1 ⟨Rat.le_of_lt p, Rat.le_refl⟩
    exact ⟨p, q1.1.1, q2.1.2⟩
  refine ⟨rfl, hpos, ?_, fun s hsm => ?_, fun ha hb => ?_⟩
  · refine (wantL_pw _).imp_of_mem fun {s t} hs ht hst => ?_
    have p1 := hok.pos s (inA s hs)
    have p2 := hok.pos t (inA t ht)
    unfold ltF at hst
    rcases hok.dis s (inA s hs) t (inA t ht) with e | e | e
    · rw [e] at hst; exact absurd hst Rat.lt_irrefl
    · exact e
    · grind
  · have := hpos s hsm
    exact mid_first hd hs hab hsm (by grind) (by grind)
  · exact cover_sum hd hs hab (sheet_cover k s0 s1 half ha hb)
end Go.Proofs.YtccngnjkehibiaaGreatDoor
