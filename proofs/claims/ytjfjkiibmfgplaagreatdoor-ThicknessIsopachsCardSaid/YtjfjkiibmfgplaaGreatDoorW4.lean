/- The walks over slices.MinFunc, MaxFunc, field.Range, thickness.Extremes, At. -/
import Derived.Test.YtjfjkiibmfgplaaGreatDoorW3
import Derived.Test.YtjfjkiibmfgplaaGreatDoorU1
namespace Go.Proofs.YtjfjkiibmfgplaaGreatDoor
open Go.RowKit Go.Lib

/-- The least and the greatest of a list. -/
def lowQ (l : List Rat) : Rat := l.tail.foldl minQ (l.headD 0)
def highQ (l : List Rat) : Rat := l.tail.foldl maxQ (l.headD 0)
theorem lowQ_one (l : List Rat) (h : 0 < l.length) : lowQ (l.take 1) = l[0] := by
  cases l with
  | nil => simp at h
  | cons a l => simp [lowQ]
theorem highQ_one (l : List Rat) (h : 0 < l.length) : highQ (l.take 1) = l[0] := by
  cases l with
  | nil => simp at h
  | cons a l => simp [highQ]
theorem lowQ_step (l : List Rat) (i : Nat) (h1 : 1 ≤ i) (h : i < l.length) : lowQ (l.take (i + 1)) = minQ (lowQ (l.take i)) l[i] := by
  obtain ⟨j, rfl⟩ : ∃ j, i = j + 1 := ⟨i - 1, by omega⟩
  cases l with
  | nil => simp at h
  | cons a l =>
    have hj : j < l.length := by simpa using h
    show (l.take (j + 1)).foldl minQ a = minQ ((l.take j).foldl minQ a) l[j]
    rw [List.take_succ_eq_append_getElem hj, List.foldl_append]
    rfl
theorem highQ_step (l : List Rat) (i : Nat) (h1 : 1 ≤ i) (h : i < l.length) : highQ (l.take (i + 1)) = maxQ (highQ (l.take i)) l[i] := by
  obtain ⟨j, rfl⟩ : ∃ j, i = j + 1 := ⟨i - 1, by omega⟩
  cases l with
  | nil => simp at h
  | cons a l =>
    have hj : j < l.length := by simpa using h
    show (l.take (j + 1)).foldl maxQ a = maxQ ((l.take j).foldl maxQ a) l[j]
    rw [List.take_succ_eq_append_getElem hj, List.foldl_append]
    rfl
theorem minQ_lt {m x : Rat} (h : x < m) : minQ m x = x := by unfold minQ; rw [if_pos h]
theorem minQ_eq {m x : Rat} (h : x = m) : minQ m x = m := by unfold minQ; rw [if_neg (by rw [h]; exact Rat.lt_irrefl)]
theorem minQ_gt {m x : Rat} (h : m < x) : minQ m x = m := by unfold minQ; rw [if_neg (by grind)]
theorem maxQ_gt {m x : Rat} (h : m < x) : maxQ m x = x := by unfold maxQ; rw [if_pos h]
theorem maxQ_eq {m x : Rat} (h : x = m) : maxQ m x = m := by unfold maxQ; rw [if_neg (by rw [h]; exact Rat.lt_irrefl)]
theorem maxQ_lt {m x : Rat} (h : x < m) : maxQ m x = m := by unfold maxQ; rw [if_neg (by grind)]
theorem cmpQ_cases (x m : Rat) : (x < m ∧ cmpQ x m = -1) ∨ (x = m ∧ cmpQ x m = 0) ∨ (m < x ∧ cmpQ x m = 1) := by
  unfold cmpQ
  by_cases h1 : x < m
  · exact .inl ⟨h1, by rw [if_pos h1]⟩
  · by_cases h2 : m < x
    · exact .inr (.inr ⟨h2, by rw [if_neg h1, if_pos h2]⟩)
    · exact .inr (.inl ⟨Rat.le_antisymm (Rat.not_lt.1 h2) (Rat.not_lt.1 h1), by rw [if_neg h1, if_neg h2]⟩)

set_option maxHeartbeats 2000000 in
set_option maxRecDepth 100000 in
theorem minFunc_any (v : Value) (l : List Rat) (k : Nat) (hk : 0 < k) (hk2 : k ≤ 20000) (hs : ∀ q ∈ l, Sz k q) (w : World) (hr : RdQ w v l) (hne : l ≠ []) (hg : Good w) :
    Calls Tryz.prog 90 #[v, .func (.func 91) #[] #[]] w (Ret (fun r _ => r = .string (RS (lowQ l))) w) := by
  obtain ⟨p, c, rfl, hlc, hcm, hr'⟩ := hr.open
  obtain ⟨b, off, rfl, hbs, hcell⟩ := hr' hne
  have hl : ¬ l.length < 1 := by have := List.length_pos_iff.2 hne; omega
  have hl0 : 0 < l.length := by omega
  have x0 := hcell 0 hl0
  rw [Nat.add_zero] at x0
  have HC := Lib.hid hcell
  have HS := Lib.hid hs
  have H1 := Lib.hid (lowQ_one l hl0)
  unfold maxLen at hcm
  clear hcell hr' hs hne hr
  obtain ⟨m0, hm0⟩ : ∃ m, m = l[0] := ⟨_, rfl⟩
  rw [← hm0] at x0
  have HM0 : Hid (m0 = lowQ (l.take 1)) := by unfold Hid; rw [H1.out, hm0]
  clear hm0
  go_enter Tryz.func90, Tryz.ntmps90
  go_wp2_with fail
  go_loopw [5, 6] (fun t5 t6 wr => ∃ (i : Nat) (m : Rat), t5 = .string (RS m) ∧ t6 = .int .i64 i ∧ 1 ≤ i ∧ i ≤ l.length ∧ Hid (m = lowQ (l.take i)) ∧ Hid (Sz k m) ∧ Below w.heap.size w wr) (fun _ t6 _ => l.length - (RowKit.intOf t6).toNat)
  case atStart => exact ⟨1, m0, rfl, rfl, Nat.le_refl _, by omega, HM0, by unfold Hid; rw [HM0.out, H1.out]; exact HS.out _ (List.getElem_mem hl0), Below.refl _ _⟩
  case round =>
    obtain ⟨i, m, rfl, rfl, hi1, hi, HM, HZ, hbl⟩ := hrel
    rcases Nat.lt_or_ge i l.length with h | h
    · have hc := (hbl.cell (p := ⟨b, off + i, none⟩) hbs).trans (HC.out i h)
      have zx := HS.out _ (List.getElem_mem h)
      have HN : Hid (lowQ (l.take (i + 1)) = minQ m l[i]) := by unfold Hid; rw [lowQ_step l i hi1 h, ← HM.out]
      have hin : (i : Int) < (l.length : Int) := by omega
      generalize l[i]'_ = x at *
      have HCMP : Hid (∀ w, Good w → _) := fun w hg => ratCompare_any x m k hk hk2 zx HZ.out w hg
      have HZX := Lib.hid zx
      have hgr := hg.below hbl
      rcases cmpQ_cases x m with ⟨hx, e⟩ | ⟨hx, e⟩ | ⟨hx, e⟩
      all_goals
        rw [e] at HCMP
        have HX := Lib.hid hx
        clear e zx hx
      · have HV : Hid (x = minQ m x) := by unfold Hid; exact (minQ_lt HX.out).symm
        go_wp2_with fail
        refine (HCMP.out wr hgr).mono ?_
        rintro e w2 ⟨_, rfl, rfl, hb2⟩
        have hb3 := hbl.trans (hb2.mono hbl.size)
        have hc2 := (hb2.cell (p := ⟨b, off + i, none⟩) (by show b < wr.heap.size; have := hbl.size; omega)).trans hc
        go_wp2_with fail
        go_roundw
        case rel => exact ⟨i + 1, x, rfl, by go_num, by omega, h, by unfold Hid; rw [HN.out]; exact HV.out, HZX, hb3⟩
        case measure => simp [RowKit.intOf]; omega
      · have HV : Hid (m = minQ m x) := by unfold Hid; exact (minQ_eq HX.out).symm
        go_wp2_with fail
        refine (HCMP.out wr hgr).mono ?_
        rintro e w2 ⟨_, rfl, rfl, hb2⟩
        have hb3 := hbl.trans (hb2.mono hbl.size)
        skip
        go_wp2_with fail
        go_roundw
        case rel => exact ⟨i + 1, m, rfl, by go_num, by omega, h, by unfold Hid; rw [HN.out]; exact HV.out, HZ, hb3⟩
        case measure => simp [RowKit.intOf]; omega
      · have HV : Hid (m = minQ m x) := by unfold Hid; exact (minQ_gt HX.out).symm
        go_wp2_with fail
        refine (HCMP.out wr hgr).mono ?_
        rintro e w2 ⟨_, rfl, rfl, hb2⟩
        have hb3 := hbl.trans (hb2.mono hbl.size)
        skip
        go_wp2_with fail
        go_roundw
        case rel => exact ⟨i + 1, m, rfl, by go_num, by omega, h, by unfold Hid; rw [HN.out]; exact HV.out, HZ, hb3⟩
        case measure => simp [RowKit.intOf]; omega
    · have HF : Hid (m = lowQ l) := by have := HM.out; rw [List.take_of_length_le h] at this; exact this
      clear HM HZ
      go_wp2_with fail
      go_ret
      exact ⟨_, rfl, congrArg (fun z => Value.string (RS z)) HF.out, hbl⟩

set_option maxHeartbeats 2000000 in
set_option maxRecDepth 100000 in
theorem maxFunc_any (v : Value) (l : List Rat) (k : Nat) (hk : 0 < k) (hk2 : k ≤ 20000) (hs : ∀ q ∈ l, Sz k q) (w : World) (hr : RdQ w v l) (hne : l ≠ []) (hg : Good w) :
    Calls Tryz.prog 92 #[v, .func (.func 91) #[] #[]] w (Ret (fun r _ => r = .string (RS (highQ l))) w) := by
  obtain ⟨p, c, rfl, hlc, hcm, hr'⟩ := hr.open
  obtain ⟨b, off, rfl, hbs, hcell⟩ := hr' hne
  have hl : ¬ l.length < 1 := by have := List.length_pos_iff.2 hne; omega
  have hl0 : 0 < l.length := by omega
  have x0 := hcell 0 hl0
  rw [Nat.add_zero] at x0
  have HC := Lib.hid hcell
  have HS := Lib.hid hs
  have H1 := Lib.hid (highQ_one l hl0)
  unfold maxLen at hcm
  clear hcell hr' hs hne hr
  obtain ⟨m0, hm0⟩ : ∃ m, m = l[0] := ⟨_, rfl⟩
  rw [← hm0] at x0
  have HM0 : Hid (m0 = highQ (l.take 1)) := by unfold Hid; rw [H1.out, hm0]
  clear hm0
  go_enter Tryz.func92, Tryz.ntmps92
  go_wp2_with fail
  go_loopw [5, 6] (fun t5 t6 wr => ∃ (i : Nat) (m : Rat), t5 = .string (RS m) ∧ t6 = .int .i64 i ∧ 1 ≤ i ∧ i ≤ l.length ∧ Hid (m = highQ (l.take i)) ∧ Hid (Sz k m) ∧ Below w.heap.size w wr) (fun _ t6 _ => l.length - (RowKit.intOf t6).toNat)
  case atStart => exact ⟨1, m0, rfl, rfl, Nat.le_refl _, by omega, HM0, by unfold Hid; rw [HM0.out, H1.out]; exact HS.out _ (List.getElem_mem hl0), Below.refl _ _⟩
  case round =>
    obtain ⟨i, m, rfl, rfl, hi1, hi, HM, HZ, hbl⟩ := hrel
    rcases Nat.lt_or_ge i l.length with h | h
    · have hc := (hbl.cell (p := ⟨b, off + i, none⟩) hbs).trans (HC.out i h)
      have zx := HS.out _ (List.getElem_mem h)
      have HN : Hid (highQ (l.take (i + 1)) = maxQ m l[i]) := by unfold Hid; rw [highQ_step l i hi1 h, ← HM.out]
      have hin : (i : Int) < (l.length : Int) := by omega
      generalize l[i]'_ = x at *
      have HCMP : Hid (∀ w, Good w → _) := fun w hg => ratCompare_any x m k hk hk2 zx HZ.out w hg
      have HZX := Lib.hid zx
      have hgr := hg.below hbl
      rcases cmpQ_cases x m with ⟨hx, e⟩ | ⟨hx, e⟩ | ⟨hx, e⟩
      all_goals
        rw [e] at HCMP
        have HX := Lib.hid hx
        clear e zx hx
      · have HV : Hid (m = maxQ m x) := by unfold Hid; exact (maxQ_lt HX.out).symm
        go_wp2_with fail
        refine (HCMP.out wr hgr).mono ?_
        rintro e w2 ⟨_, rfl, rfl, hb2⟩
        have hb3 := hbl.trans (hb2.mono hbl.size)
        skip
        go_wp2_with fail
        go_roundw
        case rel => exact ⟨i + 1, m, rfl, by go_num, by omega, h, by unfold Hid; rw [HN.out]; exact HV.out, HZ, hb3⟩
        case measure => simp [RowKit.intOf]; omega
      · have HV : Hid (m = maxQ m x) := by unfold Hid; exact (maxQ_eq HX.out).symm
        go_wp2_with fail
        refine (HCMP.out wr hgr).mono ?_
        rintro e w2 ⟨_, rfl, rfl, hb2⟩
        have hb3 := hbl.trans (hb2.mono hbl.size)
        skip
        go_wp2_with fail
        go_roundw
        case rel => exact ⟨i + 1, m, rfl, by go_num, by omega, h, by unfold Hid; rw [HN.out]; exact HV.out, HZ, hb3⟩
        case measure => simp [RowKit.intOf]; omega
      · have HV : Hid (x = maxQ m x) := by unfold Hid; exact (maxQ_gt HX.out).symm
        go_wp2_with fail
        refine (HCMP.out wr hgr).mono ?_
        rintro e w2 ⟨_, rfl, rfl, hb2⟩
        have hb3 := hbl.trans (hb2.mono hbl.size)
        have hc2 := (hb2.cell (p := ⟨b, off + i, none⟩) (by show b < wr.heap.size; have := hbl.size; omega)).trans hc
        go_wp2_with fail
        go_roundw
        case rel => exact ⟨i + 1, x, rfl, by go_num, by omega, h, by unfold Hid; rw [HN.out]; exact HV.out, HZX, hb3⟩
        case measure => simp [RowKit.intOf]; omega
    · have HF : Hid (m = highQ l) := by have := HM.out; rw [List.take_of_length_le h] at this; exact this
      clear HM HZ
      go_wp2_with fail
      go_ret
      exact ⟨_, rfl, congrArg (fun z => Value.string (RS z)) HF.out, hbl⟩

end Go.Proofs.YtjfjkiibmfgplaaGreatDoor
