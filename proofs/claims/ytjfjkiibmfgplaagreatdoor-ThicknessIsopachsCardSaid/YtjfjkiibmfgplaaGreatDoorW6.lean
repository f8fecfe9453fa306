/- The walks over klippelaw38.difference, slices.Equal, klipperef10.Flat, klippelaw38.mean. -/
import Derived.Test.YtjfjkiibmfgplaaGreatDoorW5
namespace Go.Proofs.YtjfjkiibmfgplaaGreatDoor
open Go.RowKit Go.Lib

set_option maxHeartbeats 2000000 in
set_option maxRecDepth 100000 in
theorem difference_any (w : World) (vp vt vl vu : Value) (k : Nat) (L U : List Rat) (hk : 0 < k) (hk2 : k ≤ 20000) (hL : RdQ w vl L) (hU : RdQ w vu U) (hlen : L.length = U.length) (hn : U.length ≤ 1000000) (hsL : ∀ q ∈ L, Sz k q) (hsU : ∀ q ∈ U, Sz k q) (hg : Good w) :
    Calls Tryz.prog 28 #[.agg #[vp, vt, vl, vu]] w (Ret (fun r w' => RdQ w' r (difQ L U) ∧ FreshV w.heap.size r) w) := by
  obtain ⟨pl, cl, rfl, hlc, hlm, hlr⟩ := hL.open
  obtain ⟨pu, cu, rfl, huc, hum, hur⟩ := hU.open
  obtain ⟨n, hn0⟩ : ∃ n, n = U.length := ⟨_, rfl⟩
  have HLR := Lib.hid hlr
  have HUR := Lib.hid hur
  have HL := Lib.hid hsL
  have HU := Lib.hid hsU
  have HN1 : Hid (L.length = n) := by unfold Hid; omega
  have HN2 : Hid (U.length = n) := hn0.symm
  rw [hlen, ← hn0]
  rw [← hn0] at hn huc
  have hlc' : n ≤ cl := by omega
  clear hL hU hlr hur hsL hsU hlen hn0 hlc
  obtain ⟨i0, hi, hz0, hz1, hz2⟩ := info_parts info_str
  go_enter Tryz.func28, Tryz.ntmps28
  go_wp2_with fail
  obtain ⟨W, hW⟩ : ∃ W, W = w.alloc (.cells #[vp, vt, .slice pl n cl, .slice pu n cu] 44) := ⟨_, rfl⟩
  have hB : Below w.heap.size w W := by rw [hW]; exact (Below.refl _ _).alloc (Nat.le_refl _) _
  have b0 : BoxN W w.heap.size 44 [vp, vt, .slice pl n cl, .slice pu n cu] := by rw [hW]; exact BoxN.new _ _ _ _ rfl
  have hWz : W.heap.size = w.heap.size + 1 := by rw [hW]; simp
  have c3 := b0.cell 3 rfl
  have c2 := b0.cell 2 rfl
  rw [← hW]
  clear hW
  go_loopw [3, 9] (fun t3 t9 wr => ∃ (i : Nat), t9 = .int .i64 i ∧ i ≤ n ∧ wr.ownsRow (w.heap.size + 1) 33 1 t3 i (((difQ L U).take i).map fun q => Value.string (RS q)) ∧ Below (w.heap.size + 1) W wr ∧ w.heap.size + 1 ≤ wr.heap.size) (fun _ t9 _ => n - (RowKit.intOf t9).toNat)
  case atStart => exact ⟨0, rfl, Nat.zero_le _, World.ownsRow_nil _ _ _ _, by rw [← hWz]; exact Below.refl _ _, by omega⟩
  case round =>
    obtain ⟨i, rfl, hin, hown, hbr, hzr⟩ := hrel
    obtain ⟨p3, c3', rfl⟩ := ownsRow_shape hown
    rcases Nat.lt_or_ge i n with h | h
    · obtain ⟨bl, ol, rfl, hbl, hlc⟩ := HLR.out (by intro e; have := HN1.out; rw [e] at this; simp at this; omega)
      obtain ⟨bu, ou, rfl, hbu, huc⟩ := HUR.out (by intro e; have := HN2.out; rw [e] at this; simp at this; omega)
      have l1 := hlc i (by have := HN1.out; omega)
      have u1 := huc i (by have := HN2.out; omega)
      have hq := difQ_get L U i (by have := HN1.out; omega) (by have := HN2.out; omega)
      have zl := HL.out _ (List.getElem_mem (show i < L.length by have := HN1.out; omega))
      have zu := HU.out _ (List.getElem_mem (show i < U.length by have := HN2.out; omega))
      generalize L[i]'_ = l at *
      generalize U[i]'_ = u at *
      have HTK := Lib.hid (take_snoc _ _ _ hq)
      have HZL := Lib.hid zl
      have HZU := Lib.hid zu
      have x2 := (hbr.cell (p := ⟨w.heap.size, 2, none⟩) (by show w.heap.size < w.heap.size + 1; omega)).trans c2
      have x3 := (hbr.cell (p := ⟨w.heap.size, 3, none⟩) (by show w.heap.size < w.heap.size + 1; omega)).trans c3
      have xl := (hbr.cell (p := ⟨bl, ol + i, none⟩) (by show bl < w.heap.size + 1; omega)).trans ((hB.cell (p := ⟨bl, ol + i, none⟩) hbl).trans l1)
      have xu := (hbr.cell (p := ⟨bu, ou + i, none⟩) (by show bu < w.heap.size + 1; omega)).trans ((hB.cell (p := ⟨bu, ou + i, none⟩) hbu).trans u1)
      have hgr : Good wr := ((hg.below hB).below (by rw [hWz]; exact hbr))
      clear hlc huc l1 u1 hq zl zu c2 c3
      go_wp2_with fail
      refine (subQ_any u l k hk hk2 HZU.out HZL.out _ hgr).mono ?_
      rintro e w2 ⟨_, rfl, rfl, hb2⟩
      have hown2 := World.ownsRow.belowAll hown hb2
      have hbr2 : Below (w.heap.size + 1) W w2 := hbr.trans (hb2.mono hzr)
      have hz2' : w.heap.size + 1 ≤ w2.heap.size := Nat.le_trans hzr hb2.size
      clear hb2 hown hbr hgr x2 x3 xl xu
      go_wp2_with (at_builtin; refine wpList_append_own _ rfl _ _ 42 rfl (w.heap.size + 1) 33 i0 (.string ⟨#[]⟩) 1 16 Tryz.underlying42 hi hz0 hz1 hz2 rfl (by decide) _ _ _ rfl (hown2.alloc _) ⟨w2.heap.size, 0, none⟩ 1 1 [.string (RS (u - l))] rfl rfl (cell_one_str _ _ _) (one_cell_str _) (by unfold maxLen; omega) (by omega) (by simp; omega) ?_
                   intro v2 w3 hown3 hgrow3 _
                   have hzw3 := hgrow3.size
                   have hbr3 : Below (w.heap.size + 1) W w3 := (hbr2.alloc (by omega) _).grown hgrow3 (by simp; omega) (fun j hj => by have := (hown2.lt j hj).1; omega)
                   clear hgrow3)
      go_roundw
      case rel => exact ⟨i + 1, rfl, by omega, by rw [HTK.out, List.map_append]; exact hown3, hbr3, by simp at hzw3; omega⟩
      case measure =>
        show n - ((i : Int) + 1).toNat < n - (i : Int).toNat
        omega
    · obtain rfl : i = n := by omega
      have hfr : FreshV (w.heap.size + 1) (.slice p3 i c3') := FreshV.of_owns hown
      have hrd : RdQ wr (.slice p3 i c3') (difQ L U) := by
        have hl : (difQ L U).length = i := by rw [difQ_length _ _ (by rw [HN1.out, HN2.out]), HN2.out]
        have h1 : RdC 1 wr (.slice p3 i c3') i ((List.take i (difQ L U)).map fun q => Value.string (RS q)) := RdC.of_owns hown
        rw [List.take_of_length_le (by omega)] at h1
        unfold RdQ
        rw [hl]
        exact h1
      have hBF := hB.trans (hbr.mono (by omega))
      go_wp2_with fail
      go_ret
      exact ⟨_, rfl, ⟨hrd, fun a l c e => by have := hfr a l c e; omega⟩, hBF⟩

set_option maxHeartbeats 2000000 in
set_option maxRecDepth 100000 in
/-- Two slices that read as the same numbers. -/
theorem equal_same (v1 v2 : Value) (l : List Rat) (w : World) (h1 : RdQ w v1 l) (h2 : RdQ w v2 l) :
    Calls Tryz.prog 35 #[v1, v2] w (Ret (fun r _ => r = .bool true) w) := by
  obtain ⟨p1, c1, rfl, hl1, hm1, hr1⟩ := h1.open
  unfold maxLen at hm1
  obtain ⟨p2, c2, rfl, -, -, hr2⟩ := h2.open
  have H1 := Lib.hid hr1
  have H2 := Lib.hid hr2
  clear hr1 hr2 h1 h2
  go_enter Tryz.func35, Tryz.ntmps35
  go_wp2_with fail
  go_loopw [13] (fun t13 wr => ∃ i : Nat, t13 = .int .i64 i ∧ i ≤ l.length ∧ Below w.heap.size w wr) (fun t13 _ => l.length - (RowKit.intOf t13).toNat)
  case atStart => exact ⟨0, rfl, Nat.zero_le _, Below.refl _ _⟩
  case round =>
    obtain ⟨i, rfl, hi, hbl⟩ := hrel
    rcases Nat.lt_or_ge i l.length with h | h
    · obtain ⟨b1, o1, rfl, hb1, hc1⟩ := H1.out (List.ne_nil_of_length_pos (by omega))
      obtain ⟨b2, o2, rfl, hb2, hc2⟩ := H2.out (List.ne_nil_of_length_pos (by omega))
      have x1 := (hbl.cell (p := ⟨b1, o1 + i, none⟩) hb1).trans (hc1 i h)
      have x2 := (hbl.cell (p := ⟨b2, o2 + i, none⟩) hb2).trans (hc2 i h)
      generalize RS l[i] = s at *
      have hin : (i : Int) < (l.length : Int) := by omega
      clear hc1 hc2
      go_upto_region 6 with fail
      go_quiet (fail)
      obtain ⟨w2, hw2⟩ : ∃ w2, w2 = wr.drewN nq := ⟨_, rfl⟩
      have hb3 : Below w.heap.size w w2 := by rw [hw2]; exact hbl.trans ((below_drewN wr nq).mono hbl.size)
      rw [← hw2]
      clear hw2 x1 x2
      go_wp2_with fail
      go_roundw
      case rel => exact ⟨i + 1, by go_num, h, hb3⟩
      case measure => simp [RowKit.intOf]; omega
    · go_wp2_with fail
      go_ret
      exact ⟨_, rfl, rfl, hbl⟩

set_option maxHeartbeats 1000000 in
theorem minor10_any (a b c d : Rat) (k : Nat) (hk : 0 < k) (hk2 : k ≤ 4000) (ha : Sz k a) (hb : Sz k b) (hc : Sz k c) (hd : Sz k d) (w : World) (hg : Good w) :
    Calls Tryz.prog 138 #[.string (RS a), .string (RS b), .string (RS c), .string (RS d)] w (Ret (fun r _ => r = .string (RS (minorQ a b c d))) w) := by
  unfold minorQ
  have H1 : Hid (∀ w, Good w → _) := fun w hg => mulQ_any a d k hk (by omega) ha hd w hg
  have H2 : Hid (∀ w, Good w → _) := fun w hg => mulQ_any b c k hk (by omega) hb hc w hg
  have z1 : Sz (2 * k) (a * d) := (ha.mul hd).mono (by omega)
  have z2 : Sz (2 * k) (b * c) := (hb.mul hc).mono (by omega)
  have H3 : Hid (∀ w, Good w → _) := fun w hg => subQ_any (a * d) (b * c) (2 * k) (by omega) (by omega) z1 z2 w hg
  generalize a * d = x at *
  generalize b * c = y at *
  clear ha hb hc hd z1 z2
  go_enter Tryz.func138, Tryz.ntmps138
  go_wp2_with fail
  refine (H1.out w hg).mono ?_
  rintro e w1 ⟨_, rfl, rfl, hb1⟩
  go_wp2_with fail
  refine (H2.out w1 (hg.below hb1)).mono ?_
  rintro e w2 ⟨_, rfl, rfl, hb2⟩
  have hB2 := hb1.trans (hb2.mono hb1.size)
  go_wp2_with fail
  refine (H3.out w2 (hg.below hB2)).mono ?_
  rintro e w3 ⟨_, rfl, rfl, hb3⟩
  go_wp2_with fail
  go_ret
  exact ⟨_, rfl, rfl, hB2.trans (hb3.mono hB2.size)⟩

set_option maxHeartbeats 4000000 in
set_option maxRecDepth 100000 in
theorem flat_any (a b c : PtQ) (k : Nat) (hk : 0 < k) (hk2 : k ≤ 1000) (ha : SzP k a) (hb : SzP k b) (hc : SzP k c) (hpos : 0 < areaQ a b c) (w : World) (hg : Good w) :
    Calls Tryz.prog 93 #[.agg #[.string (RS a.1), .string (RS a.2), .string (RS b.1), .string (RS b.2), .string (RS c.1), .string (RS c.2)]] w (Ret (fun r _ => r = .string (RS (areaQ a b c))) w) := by
  have d1 : Sz (2 * k + 1) (b.1 - a.1) := (hb.1.sub ha.1).mono (by omega)
  have d2 : Sz (2 * k + 1) (b.2 - a.2) := (hb.2.sub ha.2).mono (by omega)
  have d3 : Sz (2 * k + 1) (c.1 - a.1) := (hc.1.sub ha.1).mono (by omega)
  have d4 : Sz (2 * k + 1) (c.2 - a.2) := (hc.2.sub ha.2).mono (by omega)
  have S1 : Hid (∀ w, Good w → _) := fun w hg => subQ_any b.1 a.1 k hk (by omega) hb.1 ha.1 w hg
  have S2 : Hid (∀ w, Good w → _) := fun w hg => subQ_any b.2 a.2 k hk (by omega) hb.2 ha.2 w hg
  have S3 : Hid (∀ w, Good w → _) := fun w hg => subQ_any c.1 a.1 k hk (by omega) hc.1 ha.1 w hg
  have S4 : Hid (∀ w, Good w → _) := fun w hg => subQ_any c.2 a.2 k hk (by omega) hc.2 ha.2 w hg
  have HM : Hid (∀ w, Good w → _) := fun w hg => minor10_any (b.1 - a.1) (b.2 - a.2) (c.1 - a.1) (c.2 - a.2) (2 * k + 1) (by omega) (by omega) d1 d2 d3 d4 w hg
  have e : minorQ (b.1 - a.1) (b.2 - a.2) (c.1 - a.1) (c.2 - a.2) = areaQ a b c := rfl
  have hz : Sz (8 * k + 10) (areaQ a b c) := by rw [← e]; unfold minorQ; exact ((d1.mul d4).sub (d2.mul d3)).mono (by omega)
  rw [e] at HM
  have hab : (areaQ a b c).abs = areaQ a b c := Rat.abs_of_nonneg (Rat.le_of_lt hpos)
  have HA : Hid (∀ w, Good w → _) := fun w (_ : Good w) => absQ_any (areaQ a b c) (by have := hz.size (by omega); omega) w
  rw [hab] at HA
  generalize areaQ a b c = res at *
  generalize b.1 - a.1 = x1 at *
  generalize b.2 - a.2 = x2 at *
  generalize c.1 - a.1 = x3 at *
  generalize c.2 - a.2 = x4 at *
  generalize RS a.1 = ax at *
  generalize RS a.2 = ay at *
  generalize RS b.1 = bx at *
  generalize RS b.2 = bY at *
  generalize RS c.1 = cx at *
  generalize RS c.2 = cy at *
  clear d1 d2 d3 d4 e hz hab hpos ha hb hc
  go_enter Tryz.func93, Tryz.ntmps93
  go_wp2_with fail
  obtain ⟨W, hW⟩ : ∃ W, W = w.alloc (.cells #[.string ax, .string ay, .string bx, .string bY, .string cx, .string cy] 149) := ⟨_, rfl⟩
  have hB : Below w.heap.size w W := by rw [hW]; exact (Below.refl _ _).alloc (Nat.le_refl _) _
  have e1 : BoxN W w.heap.size 149 [.string ax, .string ay, .string bx, .string bY, .string cx, .string cy] := by rw [hW]; exact BoxN.new _ _ _ _ rfl
  rw [← hW]
  clear hW
  have hz := e1.lt
  have c0 := e1.cell 0 rfl
  have c1 := e1.cell 1 rfl
  have c2 := e1.cell 2 rfl
  have c3 := e1.cell 3 rfl
  have c4 := e1.cell 4 rfl
  have c5 := e1.cell 5 rfl
  have hgd : Good W.drew := (hg.below hB).drewN 1
  go_region_held3 (fun w' => w'.cell? ⟨w.heap.size, 0, none⟩ = some (.string ax) ∧ w'.cell? ⟨w.heap.size, 1, none⟩ = some (.string ay) ∧ w'.cell? ⟨w.heap.size, 2, none⟩ = some (.string bx) ∧ w'.cell? ⟨w.heap.size, 3, none⟩ = some (.string bY) ∧ w'.cell? ⟨w.heap.size, 4, none⟩ = some (.string cx) ∧ w'.cell? ⟨w.heap.size, 5, none⟩ = some (.string cy))
    (first | exact ⟨c0, c1, c2, c3, c4, c5⟩ | exact ⟨p_1_0, p_1_1, p_1_2, p_1_3, p_1_4, p_1_5⟩ | exact ⟨p_2_0, p_2_1, p_2_2, p_2_3, p_2_4, p_2_5⟩ | exact ⟨p_3_0, p_3_1, p_3_2, p_3_3, p_3_4, p_3_5⟩ | exact ⟨p_4_0, p_4_1, p_4_2, p_4_3, p_4_4, p_4_5⟩ | exact ⟨p_5_0, p_5_1, p_5_2, p_5_3, p_5_4, p_5_5⟩ | exact ⟨p_6_0, p_6_1, p_6_2, p_6_3, p_6_4, p_6_5⟩)
    (first
    | (go_at_call 137; refine (HA.out _ pg5).mono ?_; rintro e pw6 ⟨_, rfl, rfl, pb6⟩
       have p_6_0 := (pb6.cell (p := ⟨w.heap.size, 0, none⟩) (by show w.heap.size < pw5.heap.size; omega)).trans p_5_0
       have p_6_1 := (pb6.cell (p := ⟨w.heap.size, 1, none⟩) (by show w.heap.size < pw5.heap.size; omega)).trans p_5_1
       have p_6_2 := (pb6.cell (p := ⟨w.heap.size, 2, none⟩) (by show w.heap.size < pw5.heap.size; omega)).trans p_5_2
       have p_6_3 := (pb6.cell (p := ⟨w.heap.size, 3, none⟩) (by show w.heap.size < pw5.heap.size; omega)).trans p_5_3
       have p_6_4 := (pb6.cell (p := ⟨w.heap.size, 4, none⟩) (by show w.heap.size < pw5.heap.size; omega)).trans p_5_4
       have p_6_5 := (pb6.cell (p := ⟨w.heap.size, 5, none⟩) (by show w.heap.size < pw5.heap.size; omega)).trans p_5_5
       have ps6 : pw5.heap.size ≤ pw6.heap.size := pb6.size
       have pg6 : Good pw6 := pg5.below pb6)
    | (go_at_call 138; refine (HM.out _ pg4).mono ?_; rintro e pw5 ⟨_, rfl, rfl, pb5⟩
       have p_5_0 := (pb5.cell (p := ⟨w.heap.size, 0, none⟩) (by show w.heap.size < pw4.heap.size; omega)).trans p_4_0
       have p_5_1 := (pb5.cell (p := ⟨w.heap.size, 1, none⟩) (by show w.heap.size < pw4.heap.size; omega)).trans p_4_1
       have p_5_2 := (pb5.cell (p := ⟨w.heap.size, 2, none⟩) (by show w.heap.size < pw4.heap.size; omega)).trans p_4_2
       have p_5_3 := (pb5.cell (p := ⟨w.heap.size, 3, none⟩) (by show w.heap.size < pw4.heap.size; omega)).trans p_4_3
       have p_5_4 := (pb5.cell (p := ⟨w.heap.size, 4, none⟩) (by show w.heap.size < pw4.heap.size; omega)).trans p_4_4
       have p_5_5 := (pb5.cell (p := ⟨w.heap.size, 5, none⟩) (by show w.heap.size < pw4.heap.size; omega)).trans p_4_5
       have ps5 : pw4.heap.size ≤ pw5.heap.size := pb5.size
       have pg5 : Good pw5 := pg4.below pb5)
    | (go_at_call 17; refine (S4.out _ pg3).mono ?_; rintro e pw4 ⟨_, rfl, rfl, pb4⟩
       have p_4_0 := (pb4.cell (p := ⟨w.heap.size, 0, none⟩) (by show w.heap.size < pw3.heap.size; omega)).trans p_3_0
       have p_4_1 := (pb4.cell (p := ⟨w.heap.size, 1, none⟩) (by show w.heap.size < pw3.heap.size; omega)).trans p_3_1
       have p_4_2 := (pb4.cell (p := ⟨w.heap.size, 2, none⟩) (by show w.heap.size < pw3.heap.size; omega)).trans p_3_2
       have p_4_3 := (pb4.cell (p := ⟨w.heap.size, 3, none⟩) (by show w.heap.size < pw3.heap.size; omega)).trans p_3_3
       have p_4_4 := (pb4.cell (p := ⟨w.heap.size, 4, none⟩) (by show w.heap.size < pw3.heap.size; omega)).trans p_3_4
       have p_4_5 := (pb4.cell (p := ⟨w.heap.size, 5, none⟩) (by show w.heap.size < pw3.heap.size; omega)).trans p_3_5
       have ps4 : pw3.heap.size ≤ pw4.heap.size := pb4.size
       have pg4 : Good pw4 := pg3.below pb4)
    | (go_at_call 17; refine (S3.out _ pg2).mono ?_; rintro e pw3 ⟨_, rfl, rfl, pb3⟩
       have p_3_0 := (pb3.cell (p := ⟨w.heap.size, 0, none⟩) (by show w.heap.size < pw2.heap.size; omega)).trans p_2_0
       have p_3_1 := (pb3.cell (p := ⟨w.heap.size, 1, none⟩) (by show w.heap.size < pw2.heap.size; omega)).trans p_2_1
       have p_3_2 := (pb3.cell (p := ⟨w.heap.size, 2, none⟩) (by show w.heap.size < pw2.heap.size; omega)).trans p_2_2
       have p_3_3 := (pb3.cell (p := ⟨w.heap.size, 3, none⟩) (by show w.heap.size < pw2.heap.size; omega)).trans p_2_3
       have p_3_4 := (pb3.cell (p := ⟨w.heap.size, 4, none⟩) (by show w.heap.size < pw2.heap.size; omega)).trans p_2_4
       have p_3_5 := (pb3.cell (p := ⟨w.heap.size, 5, none⟩) (by show w.heap.size < pw2.heap.size; omega)).trans p_2_5
       have ps3 : pw2.heap.size ≤ pw3.heap.size := pb3.size
       have pg3 : Good pw3 := pg2.below pb3)
    | (go_at_call 17; refine (S2.out _ pg1).mono ?_; rintro e pw2 ⟨_, rfl, rfl, pb2⟩
       have p_2_0 := (pb2.cell (p := ⟨w.heap.size, 0, none⟩) (by show w.heap.size < pw1.heap.size; omega)).trans p_1_0
       have p_2_1 := (pb2.cell (p := ⟨w.heap.size, 1, none⟩) (by show w.heap.size < pw1.heap.size; omega)).trans p_1_1
       have p_2_2 := (pb2.cell (p := ⟨w.heap.size, 2, none⟩) (by show w.heap.size < pw1.heap.size; omega)).trans p_1_2
       have p_2_3 := (pb2.cell (p := ⟨w.heap.size, 3, none⟩) (by show w.heap.size < pw1.heap.size; omega)).trans p_1_3
       have p_2_4 := (pb2.cell (p := ⟨w.heap.size, 4, none⟩) (by show w.heap.size < pw1.heap.size; omega)).trans p_1_4
       have p_2_5 := (pb2.cell (p := ⟨w.heap.size, 5, none⟩) (by show w.heap.size < pw1.heap.size; omega)).trans p_1_5
       have ps2 : pw1.heap.size ≤ pw2.heap.size := pb2.size
       have pg2 : Good pw2 := pg1.below pb2)
    | (go_at_call 17; refine (S1.out _ hgd).mono ?_; rintro e pw1 ⟨_, rfl, rfl, pb1⟩
       have p_1_0 := (pb1.cell (p := ⟨w.heap.size, 0, none⟩) (by show w.heap.size < W.heap.size; omega)).trans c0
       have p_1_1 := (pb1.cell (p := ⟨w.heap.size, 1, none⟩) (by show w.heap.size < W.heap.size; omega)).trans c1
       have p_1_2 := (pb1.cell (p := ⟨w.heap.size, 2, none⟩) (by show w.heap.size < W.heap.size; omega)).trans c2
       have p_1_3 := (pb1.cell (p := ⟨w.heap.size, 3, none⟩) (by show w.heap.size < W.heap.size; omega)).trans c3
       have p_1_4 := (pb1.cell (p := ⟨w.heap.size, 4, none⟩) (by show w.heap.size < W.heap.size; omega)).trans c4
       have p_1_5 := (pb1.cell (p := ⟨w.heap.size, 5, none⟩) (by show w.heap.size < W.heap.size; omega)).trans c5
       have ps1 : W.heap.size ≤ pw1.heap.size := pb1.size
       have pg1 : Good pw1 := hgd.below pb1))
  have pB : Below W.heap.size W pw6 := (((((((below_drewN W 1).trans (pb1.mono (by show W.heap.size ≤ W.heap.size; omega))).trans (pb2.mono (by show W.heap.size ≤ pw1.heap.size; omega))).trans (pb3.mono (by show W.heap.size ≤ pw2.heap.size; omega))).trans (pb4.mono (by show W.heap.size ≤ pw3.heap.size; omega))).trans (pb5.mono (by show W.heap.size ≤ pw4.heap.size; omega))).trans (pb6.mono (by show W.heap.size ≤ pw5.heap.size; omega)))
  go_wp2_with fail
  go_ret
  exact ⟨_, rfl, rfl, hB.trans (pB.mono hB.size)⟩

end Go.Proofs.YtjfjkiibmfgplaaGreatDoor
