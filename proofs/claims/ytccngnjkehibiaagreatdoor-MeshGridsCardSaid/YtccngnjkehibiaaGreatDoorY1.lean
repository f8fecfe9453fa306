/- The walks over mesh.toward, slices.Index and slices.Contains of points. -/
import Derived.Test.YtccngnjkehibiaaGreatDoorK3
import Derived.BigRegion
import Derived.Deep.RegionHeld3
import Derived.Deep.DeepCutAuto
namespace Go.Proofs.YtccngnjkehibiaaGreatDoor
open Go.RowKit Go.Lib

/-- The place that divides two others. -/
def towP (a b : PtQ) (s : Rat) : PtQ := (a.1 + s * (b.1 - a.1), a.2 + s * (b.2 - a.2))

set_option maxHeartbeats 4000000 in
set_option maxRecDepth 100000 in
theorem mtoward_any (a b : PtQ) (s : Rat) (n m : Nat) (hn : 0 < n) (hm : m + 3 * n + 2 ≤ 20000) (ha : SzP n a) (hb : SzP n b) (hs : Sz m s) (w : World) (hg : Good w) :
    Calls Tryz.prog 141 #[.agg #[.string (RS a.1), .string (RS a.2)], .agg #[.string (RS b.1), .string (RS b.2)], .string (RS s)] w (Ret (fun r _ => r = .agg #[.string (RS (towP a b s).1), .string (RS (towP a b s).2)]) w) := by
  have H1 : Hid (∀ w, Good w → _) := fun w hg => ratSub_any b.1 a.1 n hn (by omega) hb.1 ha.1 w hg
  have H4 : Hid (∀ w, Good w → _) := fun w hg => ratSub_any b.2 a.2 n hn (by omega) hb.2 ha.2 w hg
  have z1 : Sz (2 * n + 1) (b.1 - a.1) := (hb.1.sub ha.1).mono (by omega)
  have z2 : Sz (2 * n + 1) (b.2 - a.2) := (hb.2.sub ha.2).mono (by omega)
  have H2 : Hid (∀ w, Good w → _) := fun w hg => ratMul_any s (b.1 - a.1) (m + 2 * n + 1) (by omega) (by omega) (hs.mono (by omega)) (z1.mono (by omega)) w hg
  have H5 : Hid (∀ w, Good w → _) := fun w hg => ratMul_any s (b.2 - a.2) (m + 2 * n + 1) (by omega) (by omega) (hs.mono (by omega)) (z2.mono (by omega)) w hg
  have y1 : Sz (m + 2 * n + 1) (s * (b.1 - a.1)) := (hs.mul z1).mono (by omega)
  have y2 : Sz (m + 2 * n + 1) (s * (b.2 - a.2)) := (hs.mul z2).mono (by omega)
  have H3 : Hid (∀ w, Good w → _) := fun w hg => ratAdd_any a.1 (s * (b.1 - a.1)) (m + 2 * n + 1) (by omega) (by omega) (ha.1.mono (by omega)) y1 w hg
  have H6 : Hid (∀ w, Good w → _) := fun w hg => ratAdd_any a.2 (s * (b.2 - a.2)) (m + 2 * n + 1) (by omega) (by omega) (ha.2.mono (by omega)) y2 w hg
  unfold towP
  generalize RS (a.1 + s * (b.1 - a.1)) = r1 at *
  generalize RS (a.2 + s * (b.2 - a.2)) = r2 at *
  generalize RS (s * (b.1 - a.1)) = p1 at *
  generalize RS (s * (b.2 - a.2)) = p2 at *
  generalize RS (b.1 - a.1) = d1 at *
  generalize RS (b.2 - a.2) = d2 at *
  generalize RS a.1 = ax at *
  generalize RS a.2 = ay at *
  generalize RS b.1 = bx at *
  generalize RS b.2 = by' at *
  generalize RS s = sz at *
  clear ha hb hs z1 z2 y1 y2 hm
  go_enter Tryz.func141, Tryz.ntmps141
  go_wp2_with fail
  obtain ⟨W, hW⟩ : ∃ W, W = ((w.alloc (.cells #[.string ax, .string ay] 24)).alloc (.cells #[.string bx, .string by'] 24)).alloc (.cells #[.string ⟨#[]⟩, .string ⟨#[]⟩] 24) := ⟨_, rfl⟩
  have hB : Below w.heap.size w W := by rw [hW]; exact (((Below.refl _ _).alloc (Nat.le_refl _) _).alloc (by simp) _).alloc (by simp; omega) _
  have b6 : BoxN W (w.heap.size + 1 + 1) 24 [.string ⟨#[]⟩, .string ⟨#[]⟩] := by rw [hW]; exact BoxN.new _ _ _ _ (by simp)
  have b4 : BoxN W (w.heap.size + 1) 24 [.string bx, .string by'] := by
    rw [hW]
    have h1 := (BoxN.new (w.alloc (.cells #[.string ax, .string ay] 24)) #[.string bx, .string by'] 24 (w.heap.size + 1) (by simp))
    exact h1.below ((Below.refl _ _).alloc (Nat.le_refl _) _) h1.lt
  have b3 : BoxN W w.heap.size 24 [.string ax, .string ay] := by
    rw [hW]
    have h1 := (BoxN.new w #[.string ax, .string ay] 24 _ rfl)
    exact h1.below (((Below.refl _ _).alloc (Nat.le_refl _) _).alloc (by simp) _) h1.lt
  rw [← hW]
  clear hW
  have hgd : Good W.drew := (hg.below hB).drewN 1
  have HF : Hid (∀ w', Below W.heap.size W w' → (w'.cell? ⟨w.heap.size, 0, none⟩ = some (.string ax) ∧ w'.cell? ⟨w.heap.size, 1, none⟩ = some (.string ay) ∧ w'.cell? ⟨w.heap.size + 1, 0, none⟩ = some (.string bx) ∧ w'.cell? ⟨w.heap.size + 1, 1, none⟩ = some (.string by')) ∧ Good w' ∧ BoxN w' (w.heap.size + 1 + 1) 24 [.string ⟨#[]⟩, .string ⟨#[]⟩] ∧ Below w.heap.size w w') := fun w' hb => by
    have x3 := b3.below hb b3.lt
    have x4 := b4.below hb b4.lt
    exact ⟨⟨x3.cell 0 rfl, x3.cell 1 rfl, x4.cell 0 rfl, x4.cell 1 rfl⟩, (hg.below hB).below hb, b6.below hb b6.lt, hB.trans (hb.mono hB.size)⟩
  have HTR : Hid (∀ w' w'', Below W.heap.size W w' → Below w'.heap.size w' w'' → Below W.heap.size W w'') := fun w' w'' h1 h2 => h1.trans (h2.mono h1.size)
  have hb0 := below_drewN W 1
  have hx0 := (HF.out _ hb0).1
  have HFAR : Hid (∀ (X : World) (i j b m : Nat) (u v : Value), b < w.heap.size + 1 + 1 → ((X.setCell ⟨w.heap.size + 1 + 1, i, none⟩ u).setCell ⟨w.heap.size + 1 + 1, j, none⟩ v).cell? ⟨b, m, none⟩ = X.cell? ⟨b, m, none⟩) := fun X i j b m u v h => by
    have hne : w.heap.size + 1 + 1 ≠ b := by omega
    rw [World.cell?_setCell_far _ _ _ _ hne, World.cell?_setCell_far _ _ _ _ hne]
  clear b3 b4 b6 hB
  go_region_held3 (fun w' => w'.cell? ⟨w.heap.size, 0, none⟩ = some (.string ax) ∧ w'.cell? ⟨w.heap.size, 1, none⟩ = some (.string ay) ∧ w'.cell? ⟨w.heap.size + 1, 0, none⟩ = some (.string bx) ∧ w'.cell? ⟨w.heap.size + 1, 1, none⟩ = some (.string by'))
    (first | exact hx0 | exact hx1 | exact hx2 | exact hx3 | exact hx4 | exact hx5 | exact hx6 | exact ⟨(HFAR.out _ _ _ _ _ _ _ (by omega)).trans hx6.1, (HFAR.out _ _ _ _ _ _ _ (by omega)).trans hx6.2.1, (HFAR.out _ _ _ _ _ _ _ (by omega)).trans hx6.2.2.1, (HFAR.out _ _ _ _ _ _ _ (by omega)).trans hx6.2.2.2⟩)
    (first
      | (go_at_call 18; refine (H6.out _ hg5).mono ?_; rintro e v6 ⟨_, rfl, rfl, hbb6⟩
         have hb_6 := HTR.out _ _ hb_5 hbb6
         obtain ⟨hx6, hg6, b6_6, hB6⟩ := HF.out _ hb_6
         have y0 := b6_6.cell 0 rfl
         have y1 := b6_6.cell 1 rfl
         have y0f := b6_6.frozen 0
         have y1f := b6_6.frozen 1)
      | (go_at_call 19; refine (H5.out _ hg4).mono ?_; rintro e v5 ⟨_, rfl, rfl, hbb5⟩
         have hb_5 := HTR.out _ _ hb_4 hbb5
         obtain ⟨hx5, hg5, b6_5, hB5⟩ := HF.out _ hb_5)
      | (go_at_call 20; refine (H4.out _ hg3).mono ?_; rintro e v4 ⟨_, rfl, rfl, hbb4⟩
         have hb_4 := HTR.out _ _ hb_3 hbb4
         obtain ⟨hx4, hg4, b6_4, hB4⟩ := HF.out _ hb_4)
      | (go_at_call 18; refine (H3.out _ hg2).mono ?_; rintro e v3 ⟨_, rfl, rfl, hbb3⟩
         have hb_3 := HTR.out _ _ hb_2 hbb3
         obtain ⟨hx3, hg3, b6_3, hB3⟩ := HF.out _ hb_3)
      | (go_at_call 19; refine (H2.out _ hg1).mono ?_; rintro e v2 ⟨_, rfl, rfl, hbb2⟩
         have hb_2 := HTR.out _ _ hb_1 hbb2
         obtain ⟨hx2, hg2, b6_2, hB2⟩ := HF.out _ hb_2)
      | (go_at_call 20; refine (H1.out _ hgd).mono ?_; rintro e v1 ⟨_, rfl, rfl, hbb1⟩
         have hb_1 := HTR.out _ _ hb0 hbb1
         obtain ⟨hx1, hg1, b6_1, hB1⟩ := HF.out _ hb_1))
  all_goals
    go_wp2_with fail
    have BF := (b6_6.set 0 (.string r1)).set 1 (.string r2)
    have g0 := BF.cell 0 rfl
    have g1 := BF.cell 1 rfl
    have hle : w.heap.size ≤ w.heap.size + 1 + 1 := by omega
    have hBF := (hB6.setCell (p := ⟨w.heap.size + 1 + 1, 0, none⟩) hle (.string r1)).setCell (p := ⟨w.heap.size + 1 + 1, 1, none⟩) hle (.string r2)
    exact bodyPost_ret (v := .agg #[.string r1, .string r2]) (by simp [results, Tryz.results141, go_sem, g0, g1]) rfl ⟨_, rfl, rfl, hBF⟩

/-- The first index of a place, or -1. -/
def idxL (l : List PtQ) (p : PtQ) : Int := match l.findIdx? (fun q => decide (q = p)) with | some i => (i : Int) | none => -1
theorem idxL_at {l : List PtQ} {p : PtQ} {i : Nat} (hi : i < l.length) (hp : l[i] = p) (hb : ∀ j (h : j < i), l[j] ≠ p) : idxL l p = (i : Int) := by
  unfold idxL
  have : l.findIdx? (fun q => decide (q = p)) = some i := by
    rw [List.findIdx?_eq_some_iff_getElem]
    exact ⟨hi, by simp [hp], fun j h => by simpa using hb j h⟩
  rw [this]
theorem idxL_none {l : List PtQ} {p : PtQ} (hb : ∀ j (h : j < l.length), l[j] ≠ p) : idxL l p = -1 := by
  unfold idxL
  have : l.findIdx? (fun q => decide (q = p)) = none := by
    rw [List.findIdx?_eq_none_iff]
    intro x hx
    obtain ⟨j, hj, rfl⟩ := List.getElem_of_mem hx
    simpa using hb j hj
  rw [this]

set_option maxHeartbeats 4000000 in
set_option maxRecDepth 100000 in
theorem indexP_any (v : Value) (l : List PtQ) (p : PtQ) (w : World) (h : RdP w v (strP l)) :
    Calls Tryz.prog 142 #[v, .agg #[.string (RS p.1), .string (RS p.2)]] w (Ret (fun r _ => r = .int .i64 (idxL l p)) w) := by
  obtain ⟨p1, c1, rfl, hlc, hm1, hr1⟩ := h.open
  unfold maxLen at hm1
  rw [strP_length] at hlc ⊢
  have H1 := Lib.hid hr1
  obtain ⟨res, hres⟩ : ∃ r, r = idxL l p := ⟨_, rfl⟩
  rw [← hres]
  have HR := Lib.hid hres
  have HTP : Hid (∀ q : PtQ, _) := fun q => two_pts p q
  generalize RS p.1 = px at *
  generalize RS p.2 = py at *
  clear hr1 h hres
  go_enter Tryz.func142, Tryz.ntmps142
  go_wp2_with fail
  obtain ⟨W, hW⟩ : ∃ W, W = w.alloc (.cells #[.string px, .string py] 24) := ⟨_, rfl⟩
  have hB : Below w.heap.size w W := by rw [hW]; exact (Below.refl _ _).alloc (Nat.le_refl _) _
  have b3 : BoxN W w.heap.size 24 [.string px, .string py] := by rw [hW]; exact BoxN.new _ _ _ _ rfl
  rw [← hW]
  clear hW
  go_loopw [8] (fun t8 wr => ∃ i : Nat, t8 = .int .i64 i ∧ i ≤ l.length ∧ Hid (∀ j (h : j < i) (h2 : j < l.length), l[j] ≠ p) ∧ Below W.heap.size W wr) (fun t8 _ => l.length - (RowKit.intOf t8).toNat)
  case atStart => exact ⟨0, rfl, Nat.zero_le _, fun j h => absurd h (by omega), Below.refl _ _⟩
  case round =>
    obtain ⟨i, rfl, hi, HN, hbl⟩ := hrel
    have hbW := hB.trans (hbl.mono hB.size)
    rcases Nat.lt_or_ge i l.length with h | h
    · obtain ⟨b1, o1, rfl, hb1, hc1⟩ := H1.out (List.ne_nil_of_length_pos (by rw [strP_length]; omega))
      obtain ⟨x1, x2⟩ := hc1 i (by rw [strP_length]; exact h)
      rw [strP_get l i h] at x1 x2
      dsimp only at x1 x2
      replace x1 := (hbl.cell (p := ⟨b1, o1 + i * 2, none⟩) (Nat.lt_of_lt_of_le hb1 hB.size)).trans ((hB.cell (p := ⟨b1, o1 + i * 2, none⟩) hb1).trans x1)
      replace x2 := (hbl.cell (p := ⟨b1, o1 + i * 2 + 1, none⟩) (Nat.lt_of_lt_of_le hb1 hB.size)).trans ((hB.cell (p := ⟨b1, o1 + i * 2 + 1, none⟩) hb1).trans x2)
      have b3r := b3.below hbl b3.lt
      have y1 := b3r.cell 0 rfl
      have y2 := b3r.cell 1 rfl
      have HQ := Lib.hid (HTP.out l[i])
      have HLI : Hid (l[i] ≠ p → ∀ j (h : j < i + 1) (h2 : j < l.length), l[j] ≠ p) := fun hne j hj h2 => by
        rcases Nat.lt_or_ge j i with h3 | h3
        · exact HN.out j h3 h2
        · obtain rfl : j = i := by omega
          exact hne
      have HRI : Hid (l[i] = p → (i : Int) = res) := fun he => by rw [HR.out]; exact (idxL_at h he (fun j hj => HN.out j hj (by omega))).symm
      generalize l[i] = q at *
      generalize RS q.1 = qx at *
      generalize RS q.2 = qy at *
      have hin : (i : Int) < (l.length : Int) := by omega
      clear hc1 b3r
      go_upto_region 4 with fail
      rcases HQ.out with ⟨e, e1, e2⟩ | ⟨e, e1 | ⟨e1, e2⟩⟩
      · have HE := Lib.hid (HRI.out e.symm)
        clear e
        go_quiet (fail)
        obtain ⟨w2, hw2⟩ : ∃ w2, w2 = wr.drewN nq := ⟨_, rfl⟩
        have hb3 : Below w.heap.size w w2 := by rw [hw2]; exact hbW.trans ((below_drewN wr nq).mono hbW.size)
        rw [← hw2]
        clear hw2 x1 x2 y1 y2
        go_wp2_with fail
        go_ret
        exact ⟨_, rfl, congrArg (Value.int .i64) HE.out, hb3⟩
      all_goals
        have HE := Lib.hid (HLI.out (fun h => e h.symm))
        clear e
        go_quiet (fail)
        obtain ⟨w2, hw2⟩ : ∃ w2, w2 = wr.drewN nq := ⟨_, rfl⟩
        have hb3 : Below W.heap.size W w2 := by rw [hw2]; exact hbl.trans ((below_drewN wr nq).mono hbl.size)
        rw [← hw2]
        clear hw2 x1 x2 y1 y2
        go_wp2_with fail
        go_roundw
        case rel => exact ⟨i + 1, by go_num, by omega, HE, hb3⟩
        case measure => simp [RowKit.intOf]; omega
    · obtain rfl : i = l.length := by omega
      have HE : Hid (-1 = res) := by unfold Hid; rw [HR.out]; exact (idxL_none (fun j hj => HN.out j hj hj)).symm
      go_wp2_with fail
      go_ret
      exact ⟨_, rfl, congrArg (Value.int .i64) HE.out, hbW⟩

def hasP (l : List PtQ) (p : PtQ) : Bool := decide (0 ≤ idxL l p)
set_option maxRecDepth 100000 in
theorem containsP_any (v : Value) (l : List PtQ) (p : PtQ) (w : World) (h : RdP w v (strP l)) :
    Calls Tryz.prog 116 #[v, .agg #[.string (RS p.1), .string (RS p.2)]] w (Ret (fun r _ => r = .bool (hasP l p)) w) := by
  have HI : Hid (∀ w', Below w.heap.size w w' → _) := fun w' hb => indexP_any v l p w' (RdC.below h hb)
  unfold hasP
  generalize idxL l p = z at *
  generalize RS p.1 = px at *
  generalize RS p.2 = py at *
  clear h
  go_enter Tryz.func116, Tryz.ntmps116
  go_wp2_with fail
  refine (HI.out _ ((Below.refl _ _).alloc (Nat.le_refl _) _)).mono ?_
  rintro e w1 ⟨_, rfl, rfl, hb1⟩
  have hB1 : Below w.heap.size w w1 := ((Below.refl _ _).alloc (Nat.le_refl _) _).trans (hb1.mono (by simp))
  go_wp2_with fail
  go_ret
  exact ⟨_, rfl, rfl, hB1⟩
end Go.Proofs.YtccngnjkehibiaaGreatDoor
