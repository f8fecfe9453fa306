/- The walk over klippelaw38.ThicknessContours. -/
import Derived.Test.YtjfjkiibmfgplaaGreatDoorE9
import Derived.Test.YtjfjkiibmfgplaaGreatDoorZ3
import Derived.Deep.MidRow
import Derived.Deep.DeepCutAuto
namespace Go.Proofs.YtjfjkiibmfgplaaGreatDoor
open Go.RowKit Go.Lib

set_option maxHeartbeats 8000000 in
set_option maxRecDepth 100000 in
/-- A text that is too long, or a count that is passed over: the examples alone. -/
theorem contours_long (w : World) (kz s0 s1 : Int) (half : Bool) (a0 a1 a2 a3 a4 a5 : Int) (ah : Bool) (b0 b1 b2 b3 b4 b5 : Int) (bh even : Bool) (add : Int) (x y : ByteArray) (n : Int) (hlen : (20 < x.size ∨ 20 < y.size) ∨ (x.size ≤ 20 ∧ y.size ≤ 20 ∧ 6 < n ∧ n ≤ 100)) (hg : Good w) :
    Calls Tryz.prog 8 #[.agg #[.int .u8 kz, .int .i8 s0, .int .i8 s1, .bool half, .int .i8 a0, .int .i8 a1, .int .i8 a2, .int .i8 a3, .int .i8 a4, .int .i8 a5, .bool ah, .int .i8 b0, .int .i8 b1, .int .i8 b2, .int .i8 b3, .int .i8 b4, .int .i8 b5, .bool bh, .bool even, .int .i8 add], .agg #[.string x, .string y, .int .i64 n]] w (Ret (fun r _ => r = .bool true) w) := by
  go_enter Tryz.func8, Tryz.ntmps8
  go_wp2_with fail
  obtain ⟨W, hW⟩ : ∃ W, W = (w.alloc (.cells #[.int .u8 kz, .int .i8 s0, .int .i8 s1, .bool half, .int .i8 a0, .int .i8 a1, .int .i8 a2, .int .i8 a3, .int .i8 a4, .int .i8 a5, .bool ah, .int .i8 b0, .int .i8 b1, .int .i8 b2, .int .i8 b3, .int .i8 b4, .int .i8 b5, .bool bh, .bool even, .int .i8 add] 32)).alloc (.cells #[.string x, .string y, .int .i64 n] 93) := ⟨_, rfl⟩
  have hB : Below w.heap.size w W := by rw [hW]; exact ((Below.refl _ _).alloc (Nat.le_refl _) _).alloc (by simp) _
  have v3 : BoxN W (w.heap.size + 1) 93 [.string x, .string y, .int .i64 n] := by rw [hW]; exact BoxN.new _ _ _ _ (by simp)
  rw [← hW]
  clear hW
  refine (known_any W (hg.below hB)).mono ?_
  rintro e w1 ⟨_, rfl, rfl, hb1⟩
  have hB1 := hB.trans (hb1.mono hB.size)
  have v31 := v3.below hb1 v3.lt
  have c0 := v31.cell 0 rfl
  have c1 := v31.cell 1 rfl
  have c2 := v31.cell 2 rfl
  clear hb1 hB v3
  rcases hlen with hmx | ⟨hx, hy, h6, h100⟩
  · have hmx' : (20 : Int) < max (x.size : Int) (y.size : Int) := by omega
    go_wp2_with fail
    all_goals
      refine (known_any w1 (hg.below hB1)).mono ?_
      rintro e w2 ⟨_, rfl, rfl, hb2⟩
      go_wp2_with fail
      go_ret
      exact ⟨_, rfl, rfl, hB1.trans (hb2.mono hB1.size)⟩
  · have hx' : (x.size : Int) ≤ 20 := by omega
    have hy' : (y.size : Int) ≤ 20 := by omega
    go_wp2_with fail
    all_goals
      refine (known_any w1 (hg.below hB1)).mono ?_
      rintro e w2 ⟨_, rfl, rfl, hb2⟩
      go_wp2_with fail
      go_ret
      exact ⟨_, rfl, rfl, hB1.trans (hb2.mono hB1.size)⟩

set_option maxHeartbeats 8000000 in
set_option maxRecDepth 100000 in
theorem contours_bad (w : World) (kz s0 s1 : Int) (half : Bool) (a0 a1 a2 a3 a4 a5 : Int) (ah : Bool) (b0 b1 b2 b3 b4 b5 : Int) (bh even : Bool) (add : Int) (x y : ByteArray) (n : Int)
    (P : List PtQ) (T : List Tri) (L U : List Rat) (hx : x.size ≤ 20) (hy : y.size ≤ 20) (hM : MeshOK P T 2) (hLs : ∀ q ∈ L, Sz 2 q) (rx ry : Bool) (hr : (rx && ry) = false) (hn6 : n ≤ 6 ∨ 100 < n)
    (HMK : Hid (∀ w, Good w → Calls Tryz.prog 11 #[.agg #[.int .u8 kz, .int .i8 s0, .int .i8 s1, .bool half, .int .i8 a0, .int .i8 a1, .int .i8 a2, .int .i8 a3, .int .i8 a4, .int .i8 a5, .bool ah, .int .i8 b0, .int .i8 b1, .int .i8 b2, .int .i8 b3, .int .i8 b4, .int .i8 b5, .bool bh, .bool even, .int .i8 add]] w (Ret (fun r w' => ∃ vp vt vl vu, r = .agg #[vp, vt, vl, vu] ∧ PairIn w' vp vt vl vu P T 2 L U) w)))
    (HCT : Hid (∀ (w : World) (vp vt vl vu : Value), PairIn w vp vt vl vu P T 2 L U → Good w → Calls Tryz.prog 41 #[.agg #[vp, vt], vl, .agg #[.string x, .string y, .int .i64 n]] w (Ret (fun r _ => r = .tuple #[.slice none 0 0, .int .i64 2]) w)))
    (HR1 : Hid (∀ w, Good w → Calls Tryz.prog 26 #[.string x] w (Ret (fun r _ => r = .bool rx) w)))
    (HR2 : Hid (∀ w, Good w → Calls Tryz.prog 26 #[.string y] w (Ret (fun r _ => r = .bool ry) w))) (hg : Good w) :
    Calls Tryz.prog 8 #[.agg #[.int .u8 kz, .int .i8 s0, .int .i8 s1, .bool half, .int .i8 a0, .int .i8 a1, .int .i8 a2, .int .i8 a3, .int .i8 a4, .int .i8 a5, .bool ah, .int .i8 b0, .int .i8 b1, .int .i8 b2, .int .i8 b3, .int .i8 b4, .int .i8 b5, .bool bh, .bool even, .int .i8 add], .agg #[.string x, .string y, .int .i64 n]] w (Ret (fun r _ => r = .bool true) w) := by
  have HSZ : Hid (∀ i (hi : i < T.length), SzP 43 (slopeT P L (triI T i))) := fun i hi => by
    rw [triI_nat T i hi]; exact slope_Sz hM rfl hLs (List.getElem_mem hi)
  have HSL : Hid (∀ i (hi : i < T.length), ∀ (w : World) (vp vt vl vu : Value), PairIn w vp vt vl vu P T 2 L U → Good w → _) := fun i hi w vp vt vl vu h hg => fslope_ok w vp vt vl P T 2 L h.l i i rfl hi (triI T i) (triI_nat T i hi) ⟨(HSZ.out i hi).1.mono (by omega), (HSZ.out i hi).2.mono (by omega)⟩ hg
  have HM1 : Hid (∀ i (hi : i < T.length), ∀ w, Good w → _) := fun i hi w hg => mulQ_any (slopeT P L (triI T i)).1 (slopeT P L (triI T i)).1 43 (by omega) (by omega) (HSZ.out i hi).1 (HSZ.out i hi).1 w hg
  have HM2 : Hid (∀ i (hi : i < T.length), ∀ w, Good w → _) := fun i hi w hg => mulQ_any (slopeT P L (triI T i)).2 (slopeT P L (triI T i)).2 43 (by omega) (by omega) (HSZ.out i hi).2 (HSZ.out i hi).2 w hg
  have HAD : Hid (∀ i (hi : i < T.length), ∀ w, Good w → _) := fun i hi w hg => addQ_any ((slopeT P L (triI T i)).1 * (slopeT P L (triI T i)).1) ((slopeT P L (triI T i)).2 * (slopeT P L (triI T i)).2) 86 (by omega) (by omega) (((HSZ.out i hi).1.mul (HSZ.out i hi).1).mono (by omega)) (((HSZ.out i hi).2.mul (HSZ.out i hi).2).mono (by omega)) w hg
  have HDG : Hid (∀ i (hi : i < T.length), (dipsL P T L)[i]? = some ((slopeT P L (triI T i)).1 * (slopeT P L (triI T i)).1 + (slopeT P L (triI T i)).2 * (slopeT P L (triI T i)).2)) := fun i hi => dipsL_get P T L i hi
  have HDN : Hid ((dipsL P T L).length = T.length) := by unfold Hid dipsL; rw [List.length_map]
  have HDP : Hid (∀ (w : World) (vp vt vl vu : Value), PairIn w vp vt vl vu P T 2 L U → Good w → _) := fun w vp vt vl vu h hg => dips_ok w vp vt vl P T L h.l hg
  have hTl : T.length ≤ 800 := hM.tlen
  generalize dipsL P T L = D at *
  clear HSZ hM hLs
  go_enter Tryz.func8, Tryz.ntmps8
  go_upto_region 1 with fail
  obtain ⟨W, hW⟩ : ∃ W, W = (w.alloc (.cells #[.int .u8 kz, .int .i8 s0, .int .i8 s1, .bool half, .int .i8 a0, .int .i8 a1, .int .i8 a2, .int .i8 a3, .int .i8 a4, .int .i8 a5, .bool ah, .int .i8 b0, .int .i8 b1, .int .i8 b2, .int .i8 b3, .int .i8 b4, .int .i8 b5, .bool bh, .bool even, .int .i8 add] 32)).alloc (.cells #[.string x, .string y, .int .i64 n] 93) := ⟨_, rfl⟩
  have hB : Below w.heap.size w W := by rw [hW]; exact ((Below.refl _ _).alloc (Nat.le_refl _) _).alloc (by simp) _
  have v3 : BoxN W (w.heap.size + 1) 93 [.string x, .string y, .int .i64 n] := by rw [hW]; exact BoxN.new _ _ _ _ (by simp)
  have v2 : BoxN W w.heap.size 32 [.int .u8 kz, .int .i8 s0, .int .i8 s1, .bool half, .int .i8 a0, .int .i8 a1, .int .i8 a2, .int .i8 a3, .int .i8 a4, .int .i8 a5, .bool ah, .int .i8 b0, .int .i8 b1, .int .i8 b2, .int .i8 b3, .int .i8 b4, .int .i8 b5, .bool bh, .bool even, .int .i8 add] := by
    rw [hW]
    have h1 := (BoxN.new w #[.int .u8 kz, .int .i8 s0, .int .i8 s1, .bool half, .int .i8 a0, .int .i8 a1, .int .i8 a2, .int .i8 a3, .int .i8 a4, .int .i8 a5, .bool ah, .int .i8 b0, .int .i8 b1, .int .i8 b2, .int .i8 b3, .int .i8 b4, .int .i8 b5, .bool bh, .bool even, .int .i8 add] 32 _ rfl)
    exact h1.below ((Below.refl _ _).alloc (Nat.le_refl _) _) h1.lt
  rw [← hW]
  clear hW
  go_cut [39] (fun s39 wx => s39 = .bool false ∧ Below W.heap.size W wx)
  case first =>
    go_wp2_with fail
    refine (known_any W (hg.below hB)).mono ?_
    rintro e w1 ⟨_, rfl, rfl, hb1⟩
    have v31 := v3.below hb1 v3.lt
    have c0 := v31.cell 0 rfl
    have c1 := v31.cell 1 rfl
    have c2 := v31.cell 2 rfl
    have hx' : (x.size : Int) ≤ 20 := by omega
    have hy' : (y.size : Int) ≤ 20 := by omega
    have hmx : ¬ (20 : Int) < max (x.size : Int) (y.size : Int) := by omega
    rcases hn6 with hn6 | hn6
    · go_wp2_with fail
      all_goals
        go_meet
        exact ⟨by first | rfl | exact congrArg Value.bool (decide_eq_false (by omega)) | (simp; omega), hb1⟩
    · have h7 : (6 : Int) < n := by omega
      go_wp2_with fail
      all_goals
        go_meet
        exact ⟨by first | rfl | exact congrArg Value.bool (decide_eq_false (by omega)) | (simp; omega), hb1⟩
  case rest =>
  obtain ⟨rfl, hb1⟩ := hcut
  obtain ⟨w1, hw1⟩ : ∃ w1, w1 = wc := ⟨_, rfl⟩
  rw [← hw1] at hb1 ⊢
  clear hw1
  have hB1 := hB.trans (hb1.mono hB.size)
  have v31 := v3.below hb1 v3.lt
  have v21 := v2.below hb1 v2.lt
  have hrange : w1.rangeAt w.heap.size 0 [.int .u8 kz, .int .i8 s0, .int .i8 s1, .bool half, .int .i8 a0, .int .i8 a1, .int .i8 a2, .int .i8 a3, .int .i8 a4, .int .i8 a5, .bool ah, .int .i8 b0, .int .i8 b1, .int .i8 b2, .int .i8 b3, .int .i8 b4, .int .i8 b5, .bool bh, .bool even, .int .i8 add] := fun j v hv => by rw [Nat.zero_add]; exact v21.cell j hv
  clear hb1 hB v3 v2
  go_upto_region 3 with fail
  go_wp2_with (refine wpList_load_mid (by rfl) 32 (.tmp 2) (by rfl) w.heap.size 0 (by rfl) [.int .u8 kz, .int .i8 s0, .int .i8 s1, .bool half, .int .i8 a0, .int .i8 a1, .int .i8 a2, .int .i8 a3, .int .i8 a4, .int .i8 a5, .bool ah, .int .i8 b0, .int .i8 b1, .int .i8 b2, .int .i8 b3, .int .i8 b4, .int .i8 b5, .bool bh, .bool even, .int .i8 add] _ hrange Tryz.underlying32 (by rfl) (by kernel_rfl) ?_)
  refine (HMK.out w1 (hg.below hB1)).mono ?_
  rintro e w2 ⟨_, rfl, ⟨vp, vt, vl, vu, rfl, hPI⟩, hb2⟩
  obtain ⟨pp, cp, pt, ct, pl, cl, pu, cu, rfl, rfl, rfl, rfl⟩ := hPI.open
  have hB2 := hB1.trans (hb2.mono hB1.size)
  have v32 := v31.below hb2 v31.lt
  clear hrange v21 hb2 hB1 v31
  go_upto_region 4 with fail
  obtain ⟨W3, hW3⟩ : ∃ W, W = w2.alloc (.cells #[.slice pp P.length cp, .slice pt T.length ct, .slice pl L.length cl, .slice pu U.length cu] 44) := ⟨_, rfl⟩
  have hb3 : Below w2.heap.size w2 W3 := by rw [hW3]; exact (Below.refl _ _).alloc (Nat.le_refl _) _
  have v5 : BoxN W3 w2.heap.size 44 [.slice pp P.length cp, .slice pt T.length ct, .slice pl L.length cl, .slice pu U.length cu] := by rw [hW3]; exact BoxN.new _ _ _ _ rfl
  rw [← hW3]
  clear hW3
  have hB3 := hB2.trans (hb3.mono hB2.size)
  have HP3 := Lib.hid (hPI.below hb3)
  have v33 := v32.below hb3 v32.lt
  have c0 := v33.cell 0 rfl
  have c1 := v33.cell 1 rfl
  have c2 := v33.cell 2 rfl
  have d0 := v5.cell 0 rfl
  have d1 := v5.cell 1 rfl
  have d2 := v5.cell 2 rfl
  clear hPI hb3 hB2 v32
  go_wp2_with fail
  refine (HCT.out W3 _ _ _ _ HP3.out (hg.below hB3)).mono ?_
  rintro e w4 ⟨_, rfl, rfl, hb4⟩
  have hB4 := hB3.trans (hb4.mono hB3.size)
  have v54 := v5.below hb4 v5.lt
  have v34 := v33.below hb4 v33.lt
  have HP4 := Lib.hid (HP3.out.below hb4)
  clear c0 c1 c2 d0 d1 d2 hb4 hB3 v5 v33 HP3
  have d0 := v54.cell 0 rfl
  have d1 := v54.cell 1 rfl
  have d2 := v54.cell 2 rfl
  go_wp2_with fail
  refine (HDP.out w4 _ _ _ _ HP4.out (hg.below hB4)).mono ?_
  rintro e w5 ⟨_, rfl, ⟨vd, rfl, hrd⟩, hb5⟩
  have hB5 := hB4.trans (hb5.mono hB4.size)
  have v55 := v54.below hb5 v54.lt
  have v35 := v34.below hb5 v34.lt
  have HP5 := Lib.hid (HP4.out.below hb5)
  obtain ⟨pd, cd, rfl, -, -, hdr⟩ := RdQ.open hrd
  rw [HDN.out]
  have HDR := Lib.hid hdr
  clear d0 d1 d2 hb5 hB4 v54 v34 HP4 hrd hdr
  have d1 := v55.cell 1 rfl
  go_wp2_with fail
  clear d1
  go_loopw [73] (fun t73 wr => ∃ i : Nat, t73 = .int .i64 i ∧ i ≤ T.length ∧ Below w5.heap.size w5 wr) (fun t73 _ => T.length - (RowKit.intOf t73).toNat)
  case atStart => exact ⟨0, rfl, Nat.zero_le _, Below.refl _ _⟩
  case round =>
    obtain ⟨i, rfl, hin, hbr⟩ := hrel
    have hbW := hB5.trans (hbr.mono hB5.size)
    rcases Nat.lt_or_ge i T.length with h | h
    · have HSLi := Lib.hid (HSL.out i h)
      have HM1i := Lib.hid (HM1.out i h)
      have HM2i := Lib.hid (HM2.out i h)
      have HADi := Lib.hid (HAD.out i h)
      obtain ⟨bd, od, rfl, hbd, hdcell⟩ := HDR.out (by intro e; have := HDN.out; rw [e] at this; simp at this; omega)
      have hl : i < D.length := by rw [HDN.out]; exact h
      have f0 := (hbr.cell (p := ⟨bd, od + i, none⟩) hbd).trans (hdcell i hl)
      have hDi : D[i] = (slopeT P L (triI T i)).1 * (slopeT P L (triI T i)).1 + (slopeT P L (triI T i)).2 * (slopeT P L (triI T i)).2 := by
        have h1 := HDG.out i h
        rw [List.getElem?_eq_getElem hl] at h1
        exact Option.some.inj h1
      rw [hDi] at f0
      clear hDi hdcell hl
      generalize RS ((slopeT P L (triI T i)).1 * (slopeT P L (triI T i)).1 + (slopeT P L (triI T i)).2 * (slopeT P L (triI T i)).2) = dq at *
      generalize RS ((slopeT P L (triI T i)).1 * (slopeT P L (triI T i)).1) = xx at *
      generalize RS ((slopeT P L (triI T i)).2 * (slopeT P L (triI T i)).2) = yy at *
      generalize RS (slopeT P L (triI T i)).1 = sx at *
      generalize RS (slopeT P L (triI T i)).2 = sy at *
      have v5r := v55.below hbr v55.lt
      have d0 := v5r.cell 0 rfl
      have d1 := v5r.cell 1 rfl
      have d2 := v5r.cell 2 rfl
      have hiT : (i : Int) < (T.length : Int) := by omega
      have hzr := hbr.size
      go_wp2_with fail
      refine (HSLi.out wr _ _ _ _ (HP5.out.below hbr) (hg.below hbW)).mono ?_
      rintro e w6 ⟨_, rfl, rfl, hb6⟩
      have hbr6 := hbr.trans (hb6.mono hbr.size)
      have f6 := (hb6.cell (p := ⟨bd, od + i, none⟩) (by show bd < _; omega)).trans f0
      clear hb6 hbr hbW d0 d1 d2 f0 v5r
      go_upto_region 12 with fail
      obtain ⟨W7, hW7⟩ : ∃ W, W = w6.alloc (.cells #[.string sx, .string sy] 54) := ⟨_, rfl⟩
      have hb7 : Below w6.heap.size w6 W7 := by rw [hW7]; exact (Below.refl _ _).alloc (Nat.le_refl _) _
      have b11 : BoxN W7 w6.heap.size 54 [.string sx, .string sy] := by rw [hW7]; exact BoxN.new _ _ _ _ rfl
      rw [← hW7]
      clear hW7
      have hbr7 := hbr6.trans (hb7.mono hbr6.size)
      have hbW7 := hB5.trans (hbr7.mono hB5.size)
      have hz6 := hbr6.size
      have f7 := (hb7.cell (p := ⟨bd, od + i, none⟩) (by show bd < _; omega)).trans f6
      have y0 := b11.cell 0 rfl
      have y1 := b11.cell 1 rfl
      have hl11 := b11.lt
      have hgd : Good W7.drew := (hg.below hbW7).drewN 1
      clear hb7 hbr6 f6 b11
      go_region_held3 (fun w' => w'.cell? ⟨bd, od + i, none⟩ = some (.string dq) ∧ w'.cell? ⟨w6.heap.size, 0, none⟩ = some (.string sx) ∧ w'.cell? ⟨w6.heap.size, 1, none⟩ = some (.string sy))
        (first | exact ⟨f7, y0, y1⟩ | exact ⟨p_1_0, p_1_1, p_1_2⟩ | exact ⟨p_2_0, p_2_1, p_2_2⟩ | exact ⟨p_3_0, p_3_1, p_3_2⟩)
        (first
        | (go_at_call 18; refine (HADi.out _ pg2).mono ?_; rintro e pw3 ⟨_, rfl, rfl, pb3⟩
           have p_3_0 := (pb3.cell (p := ⟨bd, od + i, none⟩) (by show bd < pw2.heap.size; omega)).trans p_2_0
           have p_3_1 := (pb3.cell (p := ⟨w6.heap.size, 0, none⟩) (by show w6.heap.size < pw2.heap.size; omega)).trans p_2_1
           have p_3_2 := (pb3.cell (p := ⟨w6.heap.size, 1, none⟩) (by show w6.heap.size < pw2.heap.size; omega)).trans p_2_2
           have ps3 : pw2.heap.size ≤ pw3.heap.size := pb3.size
           have pg3 : Good pw3 := pg2.below pb3)
        | (go_at_call 19; refine (HM2i.out _ pg1).mono ?_; rintro e pw2 ⟨_, rfl, rfl, pb2⟩
           have p_2_0 := (pb2.cell (p := ⟨bd, od + i, none⟩) (by show bd < pw1.heap.size; omega)).trans p_1_0
           have p_2_1 := (pb2.cell (p := ⟨w6.heap.size, 0, none⟩) (by show w6.heap.size < pw1.heap.size; omega)).trans p_1_1
           have p_2_2 := (pb2.cell (p := ⟨w6.heap.size, 1, none⟩) (by show w6.heap.size < pw1.heap.size; omega)).trans p_1_2
           have ps2 : pw1.heap.size ≤ pw2.heap.size := pb2.size
           have pg2 : Good pw2 := pg1.below pb2)
        | (go_at_call 19; refine (HM1i.out _ hgd).mono ?_; rintro e pw1 ⟨_, rfl, rfl, pb1⟩
           have p_1_0 := (pb1.cell (p := ⟨bd, od + i, none⟩) (by show bd < W7.heap.size; omega)).trans f7
           have p_1_1 := (pb1.cell (p := ⟨w6.heap.size, 0, none⟩) (by show w6.heap.size < W7.heap.size; omega)).trans y0
           have p_1_2 := (pb1.cell (p := ⟨w6.heap.size, 1, none⟩) (by show w6.heap.size < W7.heap.size; omega)).trans y1
           have ps1 : W7.heap.size ≤ pw1.heap.size := pb1.size
           have pg1 : Good pw1 := hgd.below pb1))
      have pB : Below W7.heap.size W7 pw3 := ((((below_drewN W7 1).trans (pb1.mono (by show W7.heap.size ≤ W7.heap.size; omega))).trans (pb2.mono (by show W7.heap.size ≤ pw1.heap.size; omega))).trans (pb3.mono (by show W7.heap.size ≤ pw2.heap.size; omega)))
      have hbr8 := hbr7.trans (pB.mono hbr7.size)
      clear pB pb1 pb2 pb3 ps1 ps2 ps3 pg1 pg2 pg3 p_1_0 p_1_1 p_1_2 p_2_0 p_2_1 p_2_2 p_3_0 p_3_1 p_3_2 f7 y0 y1 hgd
      go_wp2_with fail
      go_roundw
      case rel => exact ⟨i + 1, by go_num, h, hbr8⟩
      case measure => simp [RowKit.intOf]; omega
    · obtain rfl : i = T.length := by omega
      obtain ⟨w6, hw6⟩ : ∃ X, X = wr := ⟨_, rfl⟩
      rw [← hw6] at hbr hbW ⊢
      clear hw6
      have v36 := v35.below hbr v35.lt
      have v56 := v55.below hbr v55.lt
      have HP6 := Lib.hid (HP5.out.below hbr)
      clear hbr hB5 v35 v55 HP5 HSL HM1 HM2 HAD HDG HDN HDP HDR
      have c0 := v36.cell 0 rfl
      go_wp2_with fail
      refine (HR1.out w6 (hg.below hbW)).mono ?_
      rintro e w7 ⟨_, rfl, rfl, hb7⟩
      have hB7 := hbW.trans (hb7.mono hbW.size)
      cases rx
      · go_wp2_with fail
        go_ret
        exact ⟨_, rfl, rfl, hB7⟩
      · obtain rfl : ry = false := by simpa using hr
        have v37 := v36.below hb7 v36.lt
        have c1 := v37.cell 1 rfl
        go_wp2_with fail
        refine (HR2.out w7 (hg.below hB7)).mono ?_
        rintro e w8 ⟨_, rfl, rfl, hb8⟩
        have hB8 := hB7.trans (hb8.mono hB7.size)
        go_wp2_with fail
        go_ret
        exact ⟨_, rfl, rfl, hB8⟩

set_option maxHeartbeats 8000000 in
set_option maxRecDepth 100000 in
theorem contours_off (w : World) (kz s0 s1 : Int) (half : Bool) (a0 a1 a2 a3 a4 a5 : Int) (ah : Bool) (b0 b1 b2 b3 b4 b5 : Int) (bh even : Bool) (add : Int) (x y : ByteArray) (n : Int)
    (P : List PtQ) (T : List Tri) (L U : List Rat) (hx : x.size ≤ 20) (hy : y.size ≤ 20) (hM : MeshOK P T 2) (hLs : ∀ q ∈ L, Sz 2 q) (sg : Int) (hr : sg ≤ 0 ∨ (0 < sg ∧ (n < 1 ∨ 100 < n))) (hn6 : n ≤ 6 ∨ 100 < n)
    (HMK : Hid (∀ w, Good w → Calls Tryz.prog 11 #[.agg #[.int .u8 kz, .int .i8 s0, .int .i8 s1, .bool half, .int .i8 a0, .int .i8 a1, .int .i8 a2, .int .i8 a3, .int .i8 a4, .int .i8 a5, .bool ah, .int .i8 b0, .int .i8 b1, .int .i8 b2, .int .i8 b3, .int .i8 b4, .int .i8 b5, .bool bh, .bool even, .int .i8 add]] w (Ret (fun r w' => ∃ vp vt vl vu, r = .agg #[vp, vt, vl, vu] ∧ PairIn w' vp vt vl vu P T 2 L U) w)))
    (HCT : Hid (∀ (w : World) (vp vt vl vu : Value), PairIn w vp vt vl vu P T 2 L U → Good w → Calls Tryz.prog 41 #[.agg #[vp, vt], vl, .agg #[.string x, .string y, .int .i64 n]] w (Ret (fun r _ => r = .tuple #[.slice none 0 0, .int .i64 3]) w)))
    (HR1 : Hid (∀ w, Good w → Calls Tryz.prog 26 #[.string x] w (Ret (fun r _ => r = .bool true) w)))
    (HR2 : Hid (∀ w, Good w → Calls Tryz.prog 26 #[.string y] w (Ret (fun r _ => r = .bool true) w)))
    (HSG : Hid (∀ w, Calls Tryz.prog 43 #[.string y] w (Drawn (fun r => r = .int .i64 sg) w))) (hg : Good w) :
    Calls Tryz.prog 8 #[.agg #[.int .u8 kz, .int .i8 s0, .int .i8 s1, .bool half, .int .i8 a0, .int .i8 a1, .int .i8 a2, .int .i8 a3, .int .i8 a4, .int .i8 a5, .bool ah, .int .i8 b0, .int .i8 b1, .int .i8 b2, .int .i8 b3, .int .i8 b4, .int .i8 b5, .bool bh, .bool even, .int .i8 add], .agg #[.string x, .string y, .int .i64 n]] w (Ret (fun r _ => r = .bool true) w) := by
  have HSZ : Hid (∀ i (hi : i < T.length), SzP 43 (slopeT P L (triI T i))) := fun i hi => by
    rw [triI_nat T i hi]; exact slope_Sz hM rfl hLs (List.getElem_mem hi)
  have HSL : Hid (∀ i (hi : i < T.length), ∀ (w : World) (vp vt vl vu : Value), PairIn w vp vt vl vu P T 2 L U → Good w → _) := fun i hi w vp vt vl vu h hg => fslope_ok w vp vt vl P T 2 L h.l i i rfl hi (triI T i) (triI_nat T i hi) ⟨(HSZ.out i hi).1.mono (by omega), (HSZ.out i hi).2.mono (by omega)⟩ hg
  have HM1 : Hid (∀ i (hi : i < T.length), ∀ w, Good w → _) := fun i hi w hg => mulQ_any (slopeT P L (triI T i)).1 (slopeT P L (triI T i)).1 43 (by omega) (by omega) (HSZ.out i hi).1 (HSZ.out i hi).1 w hg
  have HM2 : Hid (∀ i (hi : i < T.length), ∀ w, Good w → _) := fun i hi w hg => mulQ_any (slopeT P L (triI T i)).2 (slopeT P L (triI T i)).2 43 (by omega) (by omega) (HSZ.out i hi).2 (HSZ.out i hi).2 w hg
  have HAD : Hid (∀ i (hi : i < T.length), ∀ w, Good w → _) := fun i hi w hg => addQ_any ((slopeT P L (triI T i)).1 * (slopeT P L (triI T i)).1) ((slopeT P L (triI T i)).2 * (slopeT P L (triI T i)).2) 86 (by omega) (by omega) (((HSZ.out i hi).1.mul (HSZ.out i hi).1).mono (by omega)) (((HSZ.out i hi).2.mul (HSZ.out i hi).2).mono (by omega)) w hg
  have HDG : Hid (∀ i (hi : i < T.length), (dipsL P T L)[i]? = some ((slopeT P L (triI T i)).1 * (slopeT P L (triI T i)).1 + (slopeT P L (triI T i)).2 * (slopeT P L (triI T i)).2)) := fun i hi => dipsL_get P T L i hi
  have HDN : Hid ((dipsL P T L).length = T.length) := by unfold Hid dipsL; rw [List.length_map]
  have HDP : Hid (∀ (w : World) (vp vt vl vu : Value), PairIn w vp vt vl vu P T 2 L U → Good w → _) := fun w vp vt vl vu h hg => dips_ok w vp vt vl P T L h.l hg
  have hTl : T.length ≤ 800 := hM.tlen
  generalize dipsL P T L = D at *
  clear HSZ hM hLs
  go_enter Tryz.func8, Tryz.ntmps8
  go_upto_region 1 with fail
  obtain ⟨W, hW⟩ : ∃ W, W = (w.alloc (.cells #[.int .u8 kz, .int .i8 s0, .int .i8 s1, .bool half, .int .i8 a0, .int .i8 a1, .int .i8 a2, .int .i8 a3, .int .i8 a4, .int .i8 a5, .bool ah, .int .i8 b0, .int .i8 b1, .int .i8 b2, .int .i8 b3, .int .i8 b4, .int .i8 b5, .bool bh, .bool even, .int .i8 add] 32)).alloc (.cells #[.string x, .string y, .int .i64 n] 93) := ⟨_, rfl⟩
  have hB : Below w.heap.size w W := by rw [hW]; exact ((Below.refl _ _).alloc (Nat.le_refl _) _).alloc (by simp) _
  have v3 : BoxN W (w.heap.size + 1) 93 [.string x, .string y, .int .i64 n] := by rw [hW]; exact BoxN.new _ _ _ _ (by simp)
  have v2 : BoxN W w.heap.size 32 [.int .u8 kz, .int .i8 s0, .int .i8 s1, .bool half, .int .i8 a0, .int .i8 a1, .int .i8 a2, .int .i8 a3, .int .i8 a4, .int .i8 a5, .bool ah, .int .i8 b0, .int .i8 b1, .int .i8 b2, .int .i8 b3, .int .i8 b4, .int .i8 b5, .bool bh, .bool even, .int .i8 add] := by
    rw [hW]
    have h1 := (BoxN.new w #[.int .u8 kz, .int .i8 s0, .int .i8 s1, .bool half, .int .i8 a0, .int .i8 a1, .int .i8 a2, .int .i8 a3, .int .i8 a4, .int .i8 a5, .bool ah, .int .i8 b0, .int .i8 b1, .int .i8 b2, .int .i8 b3, .int .i8 b4, .int .i8 b5, .bool bh, .bool even, .int .i8 add] 32 _ rfl)
    exact h1.below ((Below.refl _ _).alloc (Nat.le_refl _) _) h1.lt
  rw [← hW]
  clear hW
  go_cut [39] (fun s39 wx => s39 = .bool false ∧ Below W.heap.size W wx)
  case first =>
    go_wp2_with fail
    refine (known_any W (hg.below hB)).mono ?_
    rintro e w1 ⟨_, rfl, rfl, hb1⟩
    have v31 := v3.below hb1 v3.lt
    have c0 := v31.cell 0 rfl
    have c1 := v31.cell 1 rfl
    have c2 := v31.cell 2 rfl
    have hx' : (x.size : Int) ≤ 20 := by omega
    have hy' : (y.size : Int) ≤ 20 := by omega
    have hmx : ¬ (20 : Int) < max (x.size : Int) (y.size : Int) := by omega
    rcases hn6 with hn6 | hn6
    · go_wp2_with fail
      all_goals
        go_meet
        exact ⟨by first | rfl | exact congrArg Value.bool (decide_eq_false (by omega)) | (simp; omega), hb1⟩
    · have h7 : (6 : Int) < n := by omega
      go_wp2_with fail
      all_goals
        go_meet
        exact ⟨by first | rfl | exact congrArg Value.bool (decide_eq_false (by omega)) | (simp; omega), hb1⟩
  case rest =>
  obtain ⟨rfl, hb1⟩ := hcut
  obtain ⟨w1, hw1⟩ : ∃ w1, w1 = wc := ⟨_, rfl⟩
  rw [← hw1] at hb1 ⊢
  clear hw1
  have hB1 := hB.trans (hb1.mono hB.size)
  have v31 := v3.below hb1 v3.lt
  have v21 := v2.below hb1 v2.lt
  have hrange : w1.rangeAt w.heap.size 0 [.int .u8 kz, .int .i8 s0, .int .i8 s1, .bool half, .int .i8 a0, .int .i8 a1, .int .i8 a2, .int .i8 a3, .int .i8 a4, .int .i8 a5, .bool ah, .int .i8 b0, .int .i8 b1, .int .i8 b2, .int .i8 b3, .int .i8 b4, .int .i8 b5, .bool bh, .bool even, .int .i8 add] := fun j v hv => by rw [Nat.zero_add]; exact v21.cell j hv
  clear hb1 hB v3 v2
  go_upto_region 3 with fail
  go_wp2_with (refine wpList_load_mid (by rfl) 32 (.tmp 2) (by rfl) w.heap.size 0 (by rfl) [.int .u8 kz, .int .i8 s0, .int .i8 s1, .bool half, .int .i8 a0, .int .i8 a1, .int .i8 a2, .int .i8 a3, .int .i8 a4, .int .i8 a5, .bool ah, .int .i8 b0, .int .i8 b1, .int .i8 b2, .int .i8 b3, .int .i8 b4, .int .i8 b5, .bool bh, .bool even, .int .i8 add] _ hrange Tryz.underlying32 (by rfl) (by kernel_rfl) ?_)
  refine (HMK.out w1 (hg.below hB1)).mono ?_
  rintro e w2 ⟨_, rfl, ⟨vp, vt, vl, vu, rfl, hPI⟩, hb2⟩
  obtain ⟨pp, cp, pt, ct, pl, cl, pu, cu, rfl, rfl, rfl, rfl⟩ := hPI.open
  have hB2 := hB1.trans (hb2.mono hB1.size)
  have v32 := v31.below hb2 v31.lt
  clear hrange v21 hb2 hB1 v31
  go_upto_region 4 with fail
  obtain ⟨W3, hW3⟩ : ∃ W, W = w2.alloc (.cells #[.slice pp P.length cp, .slice pt T.length ct, .slice pl L.length cl, .slice pu U.length cu] 44) := ⟨_, rfl⟩
  have hb3 : Below w2.heap.size w2 W3 := by rw [hW3]; exact (Below.refl _ _).alloc (Nat.le_refl _) _
  have v5 : BoxN W3 w2.heap.size 44 [.slice pp P.length cp, .slice pt T.length ct, .slice pl L.length cl, .slice pu U.length cu] := by rw [hW3]; exact BoxN.new _ _ _ _ rfl
  rw [← hW3]
  clear hW3
  have hB3 := hB2.trans (hb3.mono hB2.size)
  have HP3 := Lib.hid (hPI.below hb3)
  have v33 := v32.below hb3 v32.lt
  have c0 := v33.cell 0 rfl
  have c1 := v33.cell 1 rfl
  have c2 := v33.cell 2 rfl
  have d0 := v5.cell 0 rfl
  have d1 := v5.cell 1 rfl
  have d2 := v5.cell 2 rfl
  clear hPI hb3 hB2 v32
  go_wp2_with fail
  refine (HCT.out W3 _ _ _ _ HP3.out (hg.below hB3)).mono ?_
  rintro e w4 ⟨_, rfl, rfl, hb4⟩
  have hB4 := hB3.trans (hb4.mono hB3.size)
  have v54 := v5.below hb4 v5.lt
  have v34 := v33.below hb4 v33.lt
  have HP4 := Lib.hid (HP3.out.below hb4)
  clear c0 c1 c2 d0 d1 d2 hb4 hB3 v5 v33 HP3
  have d0 := v54.cell 0 rfl
  have d1 := v54.cell 1 rfl
  have d2 := v54.cell 2 rfl
  go_wp2_with fail
  refine (HDP.out w4 _ _ _ _ HP4.out (hg.below hB4)).mono ?_
  rintro e w5 ⟨_, rfl, ⟨vd, rfl, hrd⟩, hb5⟩
  have hB5 := hB4.trans (hb5.mono hB4.size)
  have v55 := v54.below hb5 v54.lt
  have v35 := v34.below hb5 v34.lt
  have HP5 := Lib.hid (HP4.out.below hb5)
  obtain ⟨pd, cd, rfl, -, -, hdr⟩ := RdQ.open hrd
  rw [HDN.out]
  have HDR := Lib.hid hdr
  clear d0 d1 d2 hb5 hB4 v54 v34 HP4 hrd hdr
  have d1 := v55.cell 1 rfl
  go_wp2_with fail
  clear d1
  go_loopw [73] (fun t73 wr => ∃ i : Nat, t73 = .int .i64 i ∧ i ≤ T.length ∧ Below w5.heap.size w5 wr) (fun t73 _ => T.length - (RowKit.intOf t73).toNat)
  case atStart => exact ⟨0, rfl, Nat.zero_le _, Below.refl _ _⟩
  case round =>
    obtain ⟨i, rfl, hin, hbr⟩ := hrel
    have hbW := hB5.trans (hbr.mono hB5.size)
    rcases Nat.lt_or_ge i T.length with h | h
    · have HSLi := Lib.hid (HSL.out i h)
      have HM1i := Lib.hid (HM1.out i h)
      have HM2i := Lib.hid (HM2.out i h)
      have HADi := Lib.hid (HAD.out i h)
      obtain ⟨bd, od, rfl, hbd, hdcell⟩ := HDR.out (by intro e; have := HDN.out; rw [e] at this; simp at this; omega)
      have hl : i < D.length := by rw [HDN.out]; exact h
      have f0 := (hbr.cell (p := ⟨bd, od + i, none⟩) hbd).trans (hdcell i hl)
      have hDi : D[i] = (slopeT P L (triI T i)).1 * (slopeT P L (triI T i)).1 + (slopeT P L (triI T i)).2 * (slopeT P L (triI T i)).2 := by
        have h1 := HDG.out i h
        rw [List.getElem?_eq_getElem hl] at h1
        exact Option.some.inj h1
      rw [hDi] at f0
      clear hDi hdcell hl
      generalize RS ((slopeT P L (triI T i)).1 * (slopeT P L (triI T i)).1 + (slopeT P L (triI T i)).2 * (slopeT P L (triI T i)).2) = dq at *
      generalize RS ((slopeT P L (triI T i)).1 * (slopeT P L (triI T i)).1) = xx at *
      generalize RS ((slopeT P L (triI T i)).2 * (slopeT P L (triI T i)).2) = yy at *
      generalize RS (slopeT P L (triI T i)).1 = sx at *
      generalize RS (slopeT P L (triI T i)).2 = sy at *
      have v5r := v55.below hbr v55.lt
      have d0 := v5r.cell 0 rfl
      have d1 := v5r.cell 1 rfl
      have d2 := v5r.cell 2 rfl
      have hiT : (i : Int) < (T.length : Int) := by omega
      have hzr := hbr.size
      go_wp2_with fail
      refine (HSLi.out wr _ _ _ _ (HP5.out.below hbr) (hg.below hbW)).mono ?_
      rintro e w6 ⟨_, rfl, rfl, hb6⟩
      have hbr6 := hbr.trans (hb6.mono hbr.size)
      have f6 := (hb6.cell (p := ⟨bd, od + i, none⟩) (by show bd < _; omega)).trans f0
      clear hb6 hbr hbW d0 d1 d2 f0 v5r
      go_upto_region 12 with fail
      obtain ⟨W7, hW7⟩ : ∃ W, W = w6.alloc (.cells #[.string sx, .string sy] 54) := ⟨_, rfl⟩
      have hb7 : Below w6.heap.size w6 W7 := by rw [hW7]; exact (Below.refl _ _).alloc (Nat.le_refl _) _
      have b11 : BoxN W7 w6.heap.size 54 [.string sx, .string sy] := by rw [hW7]; exact BoxN.new _ _ _ _ rfl
      rw [← hW7]
      clear hW7
      have hbr7 := hbr6.trans (hb7.mono hbr6.size)
      have hbW7 := hB5.trans (hbr7.mono hB5.size)
      have hz6 := hbr6.size
      have f7 := (hb7.cell (p := ⟨bd, od + i, none⟩) (by show bd < _; omega)).trans f6
      have y0 := b11.cell 0 rfl
      have y1 := b11.cell 1 rfl
      have hl11 := b11.lt
      have hgd : Good W7.drew := (hg.below hbW7).drewN 1
      clear hb7 hbr6 f6 b11
      go_region_held3 (fun w' => w'.cell? ⟨bd, od + i, none⟩ = some (.string dq) ∧ w'.cell? ⟨w6.heap.size, 0, none⟩ = some (.string sx) ∧ w'.cell? ⟨w6.heap.size, 1, none⟩ = some (.string sy))
        (first | exact ⟨f7, y0, y1⟩ | exact ⟨p_1_0, p_1_1, p_1_2⟩ | exact ⟨p_2_0, p_2_1, p_2_2⟩ | exact ⟨p_3_0, p_3_1, p_3_2⟩)
        (first
        | (go_at_call 18; refine (HADi.out _ pg2).mono ?_; rintro e pw3 ⟨_, rfl, rfl, pb3⟩
           have p_3_0 := (pb3.cell (p := ⟨bd, od + i, none⟩) (by show bd < pw2.heap.size; omega)).trans p_2_0
           have p_3_1 := (pb3.cell (p := ⟨w6.heap.size, 0, none⟩) (by show w6.heap.size < pw2.heap.size; omega)).trans p_2_1
           have p_3_2 := (pb3.cell (p := ⟨w6.heap.size, 1, none⟩) (by show w6.heap.size < pw2.heap.size; omega)).trans p_2_2
           have ps3 : pw2.heap.size ≤ pw3.heap.size := pb3.size
           have pg3 : Good pw3 := pg2.below pb3)
        | (go_at_call 19; refine (HM2i.out _ pg1).mono ?_; rintro e pw2 ⟨_, rfl, rfl, pb2⟩
           have p_2_0 := (pb2.cell (p := ⟨bd, od + i, none⟩) (by show bd < pw1.heap.size; omega)).trans p_1_0
           have p_2_1 := (pb2.cell (p := ⟨w6.heap.size, 0, none⟩) (by show w6.heap.size < pw1.heap.size; omega)).trans p_1_1
           have p_2_2 := (pb2.cell (p := ⟨w6.heap.size, 1, none⟩) (by show w6.heap.size < pw1.heap.size; omega)).trans p_1_2
           have ps2 : pw1.heap.size ≤ pw2.heap.size := pb2.size
           have pg2 : Good pw2 := pg1.below pb2)
        | (go_at_call 19; refine (HM1i.out _ hgd).mono ?_; rintro e pw1 ⟨_, rfl, rfl, pb1⟩
           have p_1_0 := (pb1.cell (p := ⟨bd, od + i, none⟩) (by show bd < W7.heap.size; omega)).trans f7
           have p_1_1 := (pb1.cell (p := ⟨w6.heap.size, 0, none⟩) (by show w6.heap.size < W7.heap.size; omega)).trans y0
           have p_1_2 := (pb1.cell (p := ⟨w6.heap.size, 1, none⟩) (by show w6.heap.size < W7.heap.size; omega)).trans y1
           have ps1 : W7.heap.size ≤ pw1.heap.size := pb1.size
           have pg1 : Good pw1 := hgd.below pb1))
      have pB : Below W7.heap.size W7 pw3 := ((((below_drewN W7 1).trans (pb1.mono (by show W7.heap.size ≤ W7.heap.size; omega))).trans (pb2.mono (by show W7.heap.size ≤ pw1.heap.size; omega))).trans (pb3.mono (by show W7.heap.size ≤ pw2.heap.size; omega)))
      have hbr8 := hbr7.trans (pB.mono hbr7.size)
      clear pB pb1 pb2 pb3 ps1 ps2 ps3 pg1 pg2 pg3 p_1_0 p_1_1 p_1_2 p_2_0 p_2_1 p_2_2 p_3_0 p_3_1 p_3_2 f7 y0 y1 hgd
      go_wp2_with fail
      go_roundw
      case rel => exact ⟨i + 1, by go_num, h, hbr8⟩
      case measure => simp [RowKit.intOf]; omega
    · obtain rfl : i = T.length := by omega
      obtain ⟨w6, hw6⟩ : ∃ X, X = wr := ⟨_, rfl⟩
      rw [← hw6] at hbr hbW ⊢
      clear hw6
      have v36 := v35.below hbr v35.lt
      have v56 := v55.below hbr v55.lt
      have HP6 := Lib.hid (HP5.out.below hbr)
      clear hbr hB5 v35 v55 HP5 HSL HM1 HM2 HAD HDG HDN HDP HDR
      have c0 := v36.cell 0 rfl
      go_wp2_with fail
      refine (HR1.out w6 (hg.below hbW)).mono ?_
      rintro e w7 ⟨_, rfl, rfl, hb7⟩
      have hB7 := hbW.trans (hb7.mono hbW.size)
      have v37 := v36.below hb7 v36.lt
      have c1 := v37.cell 1 rfl
      go_wp2_with fail
      refine (HR2.out w7 (hg.below hB7)).mono ?_
      rintro e w8 ⟨_, rfl, rfl, hb8⟩
      have hB8 := hB7.trans (hb8.mono hB7.size)
      have v38 := v37.below hb8 v37.lt
      clear c1
      have c1 := v38.cell 1 rfl
      go_wp2_with fail
      refine ((HSG.out w8).mono fun _ _ h => h.ret).mono ?_
      rintro e w9 ⟨_, rfl, rfl, hb9⟩
      have hB9 := hB8.trans (hb9.mono hB8.size)
      have v39 := v38.below hb9 v38.lt
      clear c1 c0
      have c2 := v39.cell 2 rfl
      rcases hr with h1 | ⟨h1, h2⟩
      · go_wp2_with fail
        go_ret
        exact ⟨_, rfl, rfl, hB9⟩
      · rcases h2 with h2 | h2
        · go_wp2_with fail
          go_ret
          exact ⟨_, rfl, rfl, hB9⟩
        · have h3 : ¬ n < 1 := by omega
          go_wp2_with fail
          go_ret
          exact ⟨_, rfl, rfl, hB9⟩

set_option maxHeartbeats 8000000 in
set_option maxRecDepth 100000 in
theorem contours_in (w : World) (kz s0 s1 : Int) (half : Bool) (a0 a1 a2 a3 a4 a5 : Int) (ah : Bool) (b0 b1 b2 b3 b4 b5 : Int) (bh even : Bool) (add : Int) (x y : ByteArray) (m : Nat)
    (P : List PtQ) (T : List Tri) (L U : List Rat) (hx : x.size ≤ 20) (hy : y.size ≤ 20) (hM : MeshOK P T 2) (hLs : ∀ q ∈ L, Sz 2 q) (hm1 : 1 ≤ m) (hm6 : m ≤ 6) (so sm sz : Nat → ByteArray) (ll : Nat → List Seg) (hll : ∀ i, i < m → (ll i).length ≤ 1000000) (sg : Int) (hsg : 0 < sg)
    (HMK : Hid (∀ w, Good w → Calls Tryz.prog 11 #[.agg #[.int .u8 kz, .int .i8 s0, .int .i8 s1, .bool half, .int .i8 a0, .int .i8 a1, .int .i8 a2, .int .i8 a3, .int .i8 a4, .int .i8 a5, .bool ah, .int .i8 b0, .int .i8 b1, .int .i8 b2, .int .i8 b3, .int .i8 b4, .int .i8 b5, .bool bh, .bool even, .int .i8 add]] w (Ret (fun r w' => ∃ vp vt vl vu, r = .agg #[vp, vt, vl, vu] ∧ PairIn w' vp vt vl vu P T 2 L U) w)))
    (HCT : Hid (∀ (w : World) (vp vt vl vu : Value), PairIn w vp vt vl vu P T 2 L U → Good w → Calls Tryz.prog 41 #[.agg #[vp, vt], vl, .agg #[.string x, .string y, .int .i64 (m : Int)]] w (Ret (fun r w' => ∃ v, r = .tuple #[v, .int .i64 0] ∧ LinesV w' w.heap.size v m ll) w)))
    (HR1 : Hid (∀ w, Good w → Calls Tryz.prog 26 #[.string x] w (Ret (fun r _ => r = .bool true) w)))
    (HR2 : Hid (∀ w, Good w → Calls Tryz.prog 26 #[.string y] w (Ret (fun r _ => r = .bool true) w)))
    (HSG : Hid (∀ w, Calls Tryz.prog 43 #[.string y] w (Drawn (fun r => r = .int .i64 sg) w)))
    (HOF : Hid (∀ i, i < m → ∀ w, Good w → Calls Tryz.prog 44 #[.int .i64 (i : Int), .int .i64 1] w (Ret (fun r _ => r = .string (so i)) w)))
    (HMU : Hid (∀ i, i < m → ∀ w, Good w → Calls Tryz.prog 19 #[.string y, .string (so i)] w (Ret (fun r _ => r = .string (sm i)) w)))
    (HAA : Hid (∀ i, i < m → ∀ w, Good w → Calls Tryz.prog 18 #[.string x, .string (sm i)] w (Ret (fun r _ => r = .string (sz i)) w)))
    (HLE : Hid (∀ i, i < m → ∀ (w : World) (vp vt vl vu : Value), PairIn w vp vt vl vu P T 2 L U → Good w → Calls Tryz.prog 27 #[.agg #[vp, vt], vl, .string (sz i)] w (Ret (fun r w' => ∃ v, r = .tuple #[v, .int .i64 0] ∧ SegV w' w.heap.size v (ll i)) w))) (hg : Good w) :
    Calls Tryz.prog 8 #[.agg #[.int .u8 kz, .int .i8 s0, .int .i8 s1, .bool half, .int .i8 a0, .int .i8 a1, .int .i8 a2, .int .i8 a3, .int .i8 a4, .int .i8 a5, .bool ah, .int .i8 b0, .int .i8 b1, .int .i8 b2, .int .i8 b3, .int .i8 b4, .int .i8 b5, .bool bh, .bool even, .int .i8 add], .agg #[.string x, .string y, .int .i64 (m : Int)]] w (Ret (fun r _ => r = .bool true) w) := by
  have HSZ : Hid (∀ i (hi : i < T.length), SzP 43 (slopeT P L (triI T i))) := fun i hi => by
    rw [triI_nat T i hi]; exact slope_Sz hM rfl hLs (List.getElem_mem hi)
  have HSL : Hid (∀ i (hi : i < T.length), ∀ (w : World) (vp vt vl vu : Value), PairIn w vp vt vl vu P T 2 L U → Good w → _) := fun i hi w vp vt vl vu h hg => fslope_ok w vp vt vl P T 2 L h.l i i rfl hi (triI T i) (triI_nat T i hi) ⟨(HSZ.out i hi).1.mono (by omega), (HSZ.out i hi).2.mono (by omega)⟩ hg
  have HM1 : Hid (∀ i (hi : i < T.length), ∀ w, Good w → _) := fun i hi w hg => mulQ_any (slopeT P L (triI T i)).1 (slopeT P L (triI T i)).1 43 (by omega) (by omega) (HSZ.out i hi).1 (HSZ.out i hi).1 w hg
  have HM2 : Hid (∀ i (hi : i < T.length), ∀ w, Good w → _) := fun i hi w hg => mulQ_any (slopeT P L (triI T i)).2 (slopeT P L (triI T i)).2 43 (by omega) (by omega) (HSZ.out i hi).2 (HSZ.out i hi).2 w hg
  have HAD : Hid (∀ i (hi : i < T.length), ∀ w, Good w → _) := fun i hi w hg => addQ_any ((slopeT P L (triI T i)).1 * (slopeT P L (triI T i)).1) ((slopeT P L (triI T i)).2 * (slopeT P L (triI T i)).2) 86 (by omega) (by omega) (((HSZ.out i hi).1.mul (HSZ.out i hi).1).mono (by omega)) (((HSZ.out i hi).2.mul (HSZ.out i hi).2).mono (by omega)) w hg
  have HDG : Hid (∀ i (hi : i < T.length), (dipsL P T L)[i]? = some ((slopeT P L (triI T i)).1 * (slopeT P L (triI T i)).1 + (slopeT P L (triI T i)).2 * (slopeT P L (triI T i)).2)) := fun i hi => dipsL_get P T L i hi
  have HDN : Hid ((dipsL P T L).length = T.length) := by unfold Hid dipsL; rw [List.length_map]
  have HDP : Hid (∀ (w : World) (vp vt vl vu : Value), PairIn w vp vt vl vu P T 2 L U → Good w → _) := fun w vp vt vl vu h hg => dips_ok w vp vt vl P T L h.l hg
  have hTl : T.length ≤ 800 := hM.tlen
  generalize dipsL P T L = D at *
  clear HSZ hM hLs
  go_enter Tryz.func8, Tryz.ntmps8
  go_upto_region 1 with fail
  obtain ⟨W, hW⟩ : ∃ W, W = (w.alloc (.cells #[.int .u8 kz, .int .i8 s0, .int .i8 s1, .bool half, .int .i8 a0, .int .i8 a1, .int .i8 a2, .int .i8 a3, .int .i8 a4, .int .i8 a5, .bool ah, .int .i8 b0, .int .i8 b1, .int .i8 b2, .int .i8 b3, .int .i8 b4, .int .i8 b5, .bool bh, .bool even, .int .i8 add] 32)).alloc (.cells #[.string x, .string y, .int .i64 (m : Int)] 93) := ⟨_, rfl⟩
  have hB : Below w.heap.size w W := by rw [hW]; exact ((Below.refl _ _).alloc (Nat.le_refl _) _).alloc (by simp) _
  have v3 : BoxN W (w.heap.size + 1) 93 [.string x, .string y, .int .i64 (m : Int)] := by rw [hW]; exact BoxN.new _ _ _ _ (by simp)
  have v2 : BoxN W w.heap.size 32 [.int .u8 kz, .int .i8 s0, .int .i8 s1, .bool half, .int .i8 a0, .int .i8 a1, .int .i8 a2, .int .i8 a3, .int .i8 a4, .int .i8 a5, .bool ah, .int .i8 b0, .int .i8 b1, .int .i8 b2, .int .i8 b3, .int .i8 b4, .int .i8 b5, .bool bh, .bool even, .int .i8 add] := by
    rw [hW]
    have h1 := (BoxN.new w #[.int .u8 kz, .int .i8 s0, .int .i8 s1, .bool half, .int .i8 a0, .int .i8 a1, .int .i8 a2, .int .i8 a3, .int .i8 a4, .int .i8 a5, .bool ah, .int .i8 b0, .int .i8 b1, .int .i8 b2, .int .i8 b3, .int .i8 b4, .int .i8 b5, .bool bh, .bool even, .int .i8 add] 32 _ rfl)
    exact h1.below ((Below.refl _ _).alloc (Nat.le_refl _) _) h1.lt
  rw [← hW]
  clear hW
  go_cut [39] (fun s39 wx => s39 = .bool false ∧ Below W.heap.size W wx)
  case first =>
    go_wp2_with fail
    refine (known_any W (hg.below hB)).mono ?_
    rintro e w1 ⟨_, rfl, rfl, hb1⟩
    have v31 := v3.below hb1 v3.lt
    have c0 := v31.cell 0 rfl
    have c1 := v31.cell 1 rfl
    have c2 := v31.cell 2 rfl
    have hx' : (x.size : Int) ≤ 20 := by omega
    have hy' : (y.size : Int) ≤ 20 := by omega
    have hmx : ¬ (20 : Int) < max (x.size : Int) (y.size : Int) := by omega
    have h6z : (m : Int) ≤ 6 := by omega
    rcases (show (m : Int) ≤ 6 ∨ (100 : Int) < (m : Int) from .inl h6z) with hn6' | hn6'
    · go_wp2_with fail
      all_goals
        go_meet
        exact ⟨by first | rfl | exact congrArg Value.bool (decide_eq_false (by omega)) | (simp; omega), hb1⟩
    · exfalso; omega
  case rest =>
  obtain ⟨rfl, hb1⟩ := hcut
  obtain ⟨w1, hw1⟩ : ∃ w1, w1 = wc := ⟨_, rfl⟩
  rw [← hw1] at hb1 ⊢
  clear hw1
  have hB1 := hB.trans (hb1.mono hB.size)
  have v31 := v3.below hb1 v3.lt
  have v21 := v2.below hb1 v2.lt
  have hrange : w1.rangeAt w.heap.size 0 [.int .u8 kz, .int .i8 s0, .int .i8 s1, .bool half, .int .i8 a0, .int .i8 a1, .int .i8 a2, .int .i8 a3, .int .i8 a4, .int .i8 a5, .bool ah, .int .i8 b0, .int .i8 b1, .int .i8 b2, .int .i8 b3, .int .i8 b4, .int .i8 b5, .bool bh, .bool even, .int .i8 add] := fun j v hv => by rw [Nat.zero_add]; exact v21.cell j hv
  clear hb1 hB v3 v2
  go_upto_region 3 with fail
  go_wp2_with (refine wpList_load_mid (by rfl) 32 (.tmp 2) (by rfl) w.heap.size 0 (by rfl) [.int .u8 kz, .int .i8 s0, .int .i8 s1, .bool half, .int .i8 a0, .int .i8 a1, .int .i8 a2, .int .i8 a3, .int .i8 a4, .int .i8 a5, .bool ah, .int .i8 b0, .int .i8 b1, .int .i8 b2, .int .i8 b3, .int .i8 b4, .int .i8 b5, .bool bh, .bool even, .int .i8 add] _ hrange Tryz.underlying32 (by rfl) (by kernel_rfl) ?_)
  refine (HMK.out w1 (hg.below hB1)).mono ?_
  rintro e w2 ⟨_, rfl, ⟨vp, vt, vl, vu, rfl, hPI⟩, hb2⟩
  obtain ⟨pp, cp, pt, ct, pl, cl, pu, cu, rfl, rfl, rfl, rfl⟩ := hPI.open
  have hB2 := hB1.trans (hb2.mono hB1.size)
  have v32 := v31.below hb2 v31.lt
  clear hrange v21 hb2 hB1 v31
  go_upto_region 4 with fail
  obtain ⟨W3, hW3⟩ : ∃ W, W = w2.alloc (.cells #[.slice pp P.length cp, .slice pt T.length ct, .slice pl L.length cl, .slice pu U.length cu] 44) := ⟨_, rfl⟩
  have hb3 : Below w2.heap.size w2 W3 := by rw [hW3]; exact (Below.refl _ _).alloc (Nat.le_refl _) _
  have v5 : BoxN W3 w2.heap.size 44 [.slice pp P.length cp, .slice pt T.length ct, .slice pl L.length cl, .slice pu U.length cu] := by rw [hW3]; exact BoxN.new _ _ _ _ rfl
  rw [← hW3]
  clear hW3
  have hB3 := hB2.trans (hb3.mono hB2.size)
  have HP3 := Lib.hid (hPI.below hb3)
  have v33 := v32.below hb3 v32.lt
  have c0 := v33.cell 0 rfl
  have c1 := v33.cell 1 rfl
  have c2 := v33.cell 2 rfl
  have d0 := v5.cell 0 rfl
  have d1 := v5.cell 1 rfl
  have d2 := v5.cell 2 rfl
  clear hPI hb3 hB2 v32
  go_wp2_with fail
  refine (HCT.out W3 _ _ _ _ HP3.out (hg.below hB3)).mono ?_
  rintro e w4 ⟨_, rfl, ⟨v6, rfl, hct⟩, hb4⟩
  have hB4 := hB3.trans (hb4.mono hB3.size)
  have v54 := v5.below hb4 v5.lt
  have v34 := v33.below hb4 v33.lt
  have HP4 := Lib.hid (HP3.out.below hb4)
  obtain ⟨p6, c6, rfl⟩ := hct.shape
  have HC4 := Lib.hid hct
  clear hct
  clear c0 c1 c2 d0 d1 d2 hb4 hB3 v5 v33 HP3
  have d0 := v54.cell 0 rfl
  have d1 := v54.cell 1 rfl
  have d2 := v54.cell 2 rfl
  go_wp2_with fail
  refine (HDP.out w4 _ _ _ _ HP4.out (hg.below hB4)).mono ?_
  rintro e w5 ⟨_, rfl, ⟨vd, rfl, hrd⟩, hb5⟩
  have hB5 := hB4.trans (hb5.mono hB4.size)
  have v55 := v54.below hb5 v54.lt
  have v35 := v34.below hb5 v34.lt
  have HP5 := Lib.hid (HP4.out.below hb5)
  obtain ⟨pd, cd, rfl, -, -, hdr⟩ := RdQ.open hrd
  rw [HDN.out]
  have HDR := Lib.hid hdr
  have HC5 := Lib.hid (HC4.out.below hb5)
  clear HC4
  clear d0 d1 d2 hb5 hB4 v54 v34 HP4 hrd hdr
  have d1 := v55.cell 1 rfl
  go_wp2_with fail
  clear d1
  go_loopw [73] (fun t73 wr => ∃ i : Nat, t73 = .int .i64 i ∧ i ≤ T.length ∧ Below w5.heap.size w5 wr) (fun t73 _ => T.length - (RowKit.intOf t73).toNat)
  case atStart => exact ⟨0, rfl, Nat.zero_le _, Below.refl _ _⟩
  case round =>
    obtain ⟨i, rfl, hin, hbr⟩ := hrel
    have hbW := hB5.trans (hbr.mono hB5.size)
    rcases Nat.lt_or_ge i T.length with h | h
    · have HSLi := Lib.hid (HSL.out i h)
      have HM1i := Lib.hid (HM1.out i h)
      have HM2i := Lib.hid (HM2.out i h)
      have HADi := Lib.hid (HAD.out i h)
      obtain ⟨bd, od, rfl, hbd, hdcell⟩ := HDR.out (by intro e; have := HDN.out; rw [e] at this; simp at this; omega)
      have hl : i < D.length := by rw [HDN.out]; exact h
      have f0 := (hbr.cell (p := ⟨bd, od + i, none⟩) hbd).trans (hdcell i hl)
      have hDi : D[i] = (slopeT P L (triI T i)).1 * (slopeT P L (triI T i)).1 + (slopeT P L (triI T i)).2 * (slopeT P L (triI T i)).2 := by
        have h1 := HDG.out i h
        rw [List.getElem?_eq_getElem hl] at h1
        exact Option.some.inj h1
      rw [hDi] at f0
      clear hDi hdcell hl
      generalize RS ((slopeT P L (triI T i)).1 * (slopeT P L (triI T i)).1 + (slopeT P L (triI T i)).2 * (slopeT P L (triI T i)).2) = dq at *
      generalize RS ((slopeT P L (triI T i)).1 * (slopeT P L (triI T i)).1) = xx at *
      generalize RS ((slopeT P L (triI T i)).2 * (slopeT P L (triI T i)).2) = yy at *
      generalize RS (slopeT P L (triI T i)).1 = sx at *
      generalize RS (slopeT P L (triI T i)).2 = sy at *
      have v5r := v55.below hbr v55.lt
      have d0 := v5r.cell 0 rfl
      have d1 := v5r.cell 1 rfl
      have d2 := v5r.cell 2 rfl
      have hiT : (i : Int) < (T.length : Int) := by omega
      have hzr := hbr.size
      go_wp2_with fail
      refine (HSLi.out wr _ _ _ _ (HP5.out.below hbr) (hg.below hbW)).mono ?_
      rintro e w6 ⟨_, rfl, rfl, hb6⟩
      have hbr6 := hbr.trans (hb6.mono hbr.size)
      have f6 := (hb6.cell (p := ⟨bd, od + i, none⟩) (by show bd < _; omega)).trans f0
      clear hb6 hbr hbW d0 d1 d2 f0 v5r
      go_upto_region 12 with fail
      obtain ⟨W7, hW7⟩ : ∃ W, W = w6.alloc (.cells #[.string sx, .string sy] 54) := ⟨_, rfl⟩
      have hb7 : Below w6.heap.size w6 W7 := by rw [hW7]; exact (Below.refl _ _).alloc (Nat.le_refl _) _
      have b11 : BoxN W7 w6.heap.size 54 [.string sx, .string sy] := by rw [hW7]; exact BoxN.new _ _ _ _ rfl
      rw [← hW7]
      clear hW7
      have hbr7 := hbr6.trans (hb7.mono hbr6.size)
      have hbW7 := hB5.trans (hbr7.mono hB5.size)
      have hz6 := hbr6.size
      have f7 := (hb7.cell (p := ⟨bd, od + i, none⟩) (by show bd < _; omega)).trans f6
      have y0 := b11.cell 0 rfl
      have y1 := b11.cell 1 rfl
      have hl11 := b11.lt
      have hgd : Good W7.drew := (hg.below hbW7).drewN 1
      clear hb7 hbr6 f6 b11
      go_region_held3 (fun w' => w'.cell? ⟨bd, od + i, none⟩ = some (.string dq) ∧ w'.cell? ⟨w6.heap.size, 0, none⟩ = some (.string sx) ∧ w'.cell? ⟨w6.heap.size, 1, none⟩ = some (.string sy))
        (first | exact ⟨f7, y0, y1⟩ | exact ⟨p_1_0, p_1_1, p_1_2⟩ | exact ⟨p_2_0, p_2_1, p_2_2⟩ | exact ⟨p_3_0, p_3_1, p_3_2⟩)
        (first
        | (go_at_call 18; refine (HADi.out _ pg2).mono ?_; rintro e pw3 ⟨_, rfl, rfl, pb3⟩
           have p_3_0 := (pb3.cell (p := ⟨bd, od + i, none⟩) (by show bd < pw2.heap.size; omega)).trans p_2_0
           have p_3_1 := (pb3.cell (p := ⟨w6.heap.size, 0, none⟩) (by show w6.heap.size < pw2.heap.size; omega)).trans p_2_1
           have p_3_2 := (pb3.cell (p := ⟨w6.heap.size, 1, none⟩) (by show w6.heap.size < pw2.heap.size; omega)).trans p_2_2
           have ps3 : pw2.heap.size ≤ pw3.heap.size := pb3.size
           have pg3 : Good pw3 := pg2.below pb3)
        | (go_at_call 19; refine (HM2i.out _ pg1).mono ?_; rintro e pw2 ⟨_, rfl, rfl, pb2⟩
           have p_2_0 := (pb2.cell (p := ⟨bd, od + i, none⟩) (by show bd < pw1.heap.size; omega)).trans p_1_0
           have p_2_1 := (pb2.cell (p := ⟨w6.heap.size, 0, none⟩) (by show w6.heap.size < pw1.heap.size; omega)).trans p_1_1
           have p_2_2 := (pb2.cell (p := ⟨w6.heap.size, 1, none⟩) (by show w6.heap.size < pw1.heap.size; omega)).trans p_1_2
           have ps2 : pw1.heap.size ≤ pw2.heap.size := pb2.size
           have pg2 : Good pw2 := pg1.below pb2)
        | (go_at_call 19; refine (HM1i.out _ hgd).mono ?_; rintro e pw1 ⟨_, rfl, rfl, pb1⟩
           have p_1_0 := (pb1.cell (p := ⟨bd, od + i, none⟩) (by show bd < W7.heap.size; omega)).trans f7
           have p_1_1 := (pb1.cell (p := ⟨w6.heap.size, 0, none⟩) (by show w6.heap.size < W7.heap.size; omega)).trans y0
           have p_1_2 := (pb1.cell (p := ⟨w6.heap.size, 1, none⟩) (by show w6.heap.size < W7.heap.size; omega)).trans y1
           have ps1 : W7.heap.size ≤ pw1.heap.size := pb1.size
           have pg1 : Good pw1 := hgd.below pb1))
      have pB : Below W7.heap.size W7 pw3 := ((((below_drewN W7 1).trans (pb1.mono (by show W7.heap.size ≤ W7.heap.size; omega))).trans (pb2.mono (by show W7.heap.size ≤ pw1.heap.size; omega))).trans (pb3.mono (by show W7.heap.size ≤ pw2.heap.size; omega)))
      have hbr8 := hbr7.trans (pB.mono hbr7.size)
      clear pB pb1 pb2 pb3 ps1 ps2 ps3 pg1 pg2 pg3 p_1_0 p_1_1 p_1_2 p_2_0 p_2_1 p_2_2 p_3_0 p_3_1 p_3_2 f7 y0 y1 hgd
      go_wp2_with fail
      go_roundw
      case rel => exact ⟨i + 1, by go_num, h, hbr8⟩
      case measure => simp [RowKit.intOf]; omega
    · obtain rfl : i = T.length := by omega
      obtain ⟨w6, hw6⟩ : ∃ X, X = wr := ⟨_, rfl⟩
      rw [← hw6] at hbr hbW ⊢
      clear hw6
      have v36 := v35.below hbr v35.lt
      have v56 := v55.below hbr v55.lt
      have HP6 := Lib.hid (HP5.out.below hbr)
      have HC6 := Lib.hid (HC5.out.below hbr)
      clear HC5
      clear hbr hB5 v35 v55 HP5 HSL HM1 HM2 HAD HDG HDN HDP HDR
      have c0 := v36.cell 0 rfl
      go_wp2_with fail
      refine (HR1.out w6 (hg.below hbW)).mono ?_
      rintro e w7 ⟨_, rfl, rfl, hb7⟩
      have hB7 := hbW.trans (hb7.mono hbW.size)
      have v37 := v36.below hb7 v36.lt
      have c1 := v37.cell 1 rfl
      go_wp2_with fail
      refine (HR2.out w7 (hg.below hB7)).mono ?_
      rintro e w8 ⟨_, rfl, rfl, hb8⟩
      have hB8 := hB7.trans (hb8.mono hB7.size)
      have v38 := v37.below hb8 v37.lt
      clear c1
      have c1 := v38.cell 1 rfl
      go_wp2_with fail
      refine ((HSG.out w8).mono fun _ _ h => h.ret).mono ?_
      rintro e w9 ⟨_, rfl, rfl, hb9⟩
      have hB9 := hB8.trans (hb9.mono hB8.size)
      have v39 := v38.below hb9 v38.lt
      clear c1 c0
      have c2 := v39.cell 2 rfl
      have v59 := ((v56.below hb7 v56.lt).below hb8 (v56.below hb7 v56.lt).lt).below hb9 ((v56.below hb7 v56.lt).below hb8 (v56.below hb7 v56.lt).lt).lt
      have HP9 := Lib.hid (((HP6.out.below hb7).below hb8).below hb9)
      have HC9 := Lib.hid (((HC6.out.below hb7).below hb8).below hb9)
      clear hb7 hb8 hb9 hB7 hB8 v36 v37 v38 v56 HP6 HC6 hbW
      have h3 : ¬ (m : Int) < 1 := by omega
      have h4 : ¬ (100 : Int) < (m : Int) := by omega
      go_wp2_with fail
      clear c2
      go_loopw [153] (fun t153 wr => ∃ i : Nat, t153 = .int .i64 i ∧ i ≤ m ∧ Below w9.heap.size w9 wr) (fun t153 _ => m - (RowKit.intOf t153).toNat)
      case atStart => exact ⟨0, rfl, Nat.zero_le _, Below.refl _ _⟩
      case round =>
        obtain ⟨i, rfl, hin, hbr⟩ := hrel
        have hbW := hB9.trans (hbr.mono hB9.size)
        rcases Nat.lt_or_ge i m with h | h
        · have HOFi := Lib.hid (HOF.out i h)
          have HMUi := Lib.hid (HMU.out i h)
          have HAAi := Lib.hid (HAA.out i h)
          have HLEi := Lib.hid (HLE.out i h)
          have hLi := hll i h
          generalize so i = s1 at *
          generalize sm i = s2 at *
          generalize sz i = s3 at *
          have v3r := v39.below hbr v39.lt
          have v5r := v59.below hbr v59.lt
          have k0 := v3r.cell 0 rfl
          have k1 := v3r.cell 1 rfl
          have hl3 := v3r.lt
          have hgd : Good wr.drew := (hg.below hbW).drewN 1
          have him : (i : Int) < (m : Int) := by omega
          go_upto_region 27 with fail
          go_region_held3 (fun w' => w'.cell? ⟨w.heap.size + 1, 0, none⟩ = some (.string x) ∧ w'.cell? ⟨w.heap.size + 1, 1, none⟩ = some (.string y))
            (first | exact ⟨k0, k1⟩ | exact ⟨p_1_0, p_1_1⟩ | exact ⟨p_2_0, p_2_1⟩ | exact ⟨p_3_0, p_3_1⟩)
            (first
            | (go_at_call 18; refine (HAAi.out _ pg2).mono ?_; rintro e pw3 ⟨_, rfl, rfl, pb3⟩
               have p_3_0 := (pb3.cell (p := ⟨w.heap.size + 1, 0, none⟩) (by show w.heap.size + 1 < pw2.heap.size; omega)).trans p_2_0
               have p_3_1 := (pb3.cell (p := ⟨w.heap.size + 1, 1, none⟩) (by show w.heap.size + 1 < pw2.heap.size; omega)).trans p_2_1
               have ps3 : pw2.heap.size ≤ pw3.heap.size := pb3.size
               have pg3 : Good pw3 := pg2.below pb3)
            | (go_at_call 19; refine (HMUi.out _ pg1).mono ?_; rintro e pw2 ⟨_, rfl, rfl, pb2⟩
               have p_2_0 := (pb2.cell (p := ⟨w.heap.size + 1, 0, none⟩) (by show w.heap.size + 1 < pw1.heap.size; omega)).trans p_1_0
               have p_2_1 := (pb2.cell (p := ⟨w.heap.size + 1, 1, none⟩) (by show w.heap.size + 1 < pw1.heap.size; omega)).trans p_1_1
               have ps2 : pw1.heap.size ≤ pw2.heap.size := pb2.size
               have pg2 : Good pw2 := pg1.below pb2)
            | (go_at_call 44; refine (HOFi.out _ hgd).mono ?_; rintro e pw1 ⟨_, rfl, rfl, pb1⟩
               have p_1_0 := (pb1.cell (p := ⟨w.heap.size + 1, 0, none⟩) (by show w.heap.size + 1 < wr.heap.size; omega)).trans k0
               have p_1_1 := (pb1.cell (p := ⟨w.heap.size + 1, 1, none⟩) (by show w.heap.size + 1 < wr.heap.size; omega)).trans k1
               have ps1 : wr.heap.size ≤ pw1.heap.size := pb1.size
               have pg1 : Good pw1 := hgd.below pb1))
          have pB : Below wr.heap.size wr pw3 := ((((below_drewN wr 1).trans (pb1.mono (by show wr.heap.size ≤ wr.heap.size; omega))).trans (pb2.mono (by show wr.heap.size ≤ pw1.heap.size; omega))).trans (pb3.mono (by show wr.heap.size ≤ pw2.heap.size; omega)))
          have hbr8 := hbr.trans (pB.mono hbr.size)
          have hbW8 := hB9.trans (hbr8.mono hB9.size)
          have v58 := v59.below hbr8 v59.lt
          have d0 := v58.cell 0 rfl
          have d1 := v58.cell 1 rfl
          have d2 := v58.cell 2 rfl
          clear pB pb1 pb2 pb3 ps1 ps2 ps3 pg1 pg2 pg3 p_1_0 p_1_1 p_2_0 p_2_1 p_3_0 p_3_1 k0 k1 hgd v3r v5r hbr hbW
          go_wp2_with fail
          refine (HLEi.out pw3 _ _ _ _ (HP9.out.below hbr8) (hg.below hbW8)).mono ?_
          rintro e w10 ⟨_, rfl, ⟨v16, rfl, hsv⟩, hb10⟩
          have hbr10 := hbr8.trans (hb10.mono hbr8.size)
          obtain ⟨gc, uc, rfl, hgc, hcell, hsu⟩ := (HC9.out.below hbr10).at h
          have HSU := Lib.hid hsu
          have HSV := Lib.hid hsv
          clear d0 d1 d2 hsu hsv hb10 hbr8 hbW8 v58
          go_wp2_with fail
          refine (same38_ok _ _ _ _ (ll i) hLi w10 HSU.out HSV.out).mono ?_
          rintro e w11 ⟨_, rfl, rfl, hb11⟩
          have hbr11 := hbr10.trans (hb11.mono hbr10.size)
          clear hcell
          go_wp2_with fail
          go_roundw
          case rel => exact ⟨i + 1, by go_num, h, hbr11⟩
          case measure => simp [RowKit.intOf]; omega
        · obtain rfl : i = m := by omega
          go_wp2_with fail
          go_ret
          exact ⟨_, rfl, rfl, hbW⟩

end Go.Proofs.YtjfjkiibmfgplaaGreatDoor
