/- The walks over field.Range, thickness.Extremes, At. -/
import Derived.Test.YtjfjkiibmfgplaaGreatDoorW4
import Derived.Test.YtjfjkiibmfgplaaGreatDoorU1
namespace Go.Proofs.YtjfjkiibmfgplaaGreatDoor
open Go.RowKit Go.Lib

set_option maxHeartbeats 2000000 in
set_option maxRecDepth 100000 in
theorem range_ok (w : World) (vp vt vf : Value) (P : List PtQ) (T : List Tri) (k : Nat) (F : List Rat) (h : FieldIn w vp vt vf P T k F) (hne : F ≠ []) (hg : Good w) :
    Calls Tryz.prog 34 #[.agg #[vp, vt], vf] w (Ret (fun r _ => r = .tuple #[.string (RS (lowQ F)), .string (RS (highQ F)), .int .i64 0]) w) := by
  have HH := Lib.hid h
  have HMIN : Hid (∀ w', Below w.heap.size w w' → Good w' → _) := fun w' hb hg' => minFunc_any vf F k h.m.kpos (by have := h.m.klim2; omega) h.fs w' (h.below hb).f hne hg'
  have HMAX : Hid (∀ w', Below w.heap.size w w' → Good w' → _) := fun w' hb hg' => maxFunc_any vf F k h.m.kpos (by have := h.m.klim2; omega) h.fs w' (h.below hb).f hne hg'
  obtain ⟨pp, cp, pt, ct, pf, cf, rfl, rfl, rfl⟩ := h.open
  generalize lowQ F = lo at *
  generalize highQ F = hi at *
  clear h hne
  go_enter Tryz.func34, Tryz.ntmps34
  go_wp2_with fail
  obtain ⟨W, hW⟩ : ∃ W, W = (w.alloc (.cells #[.slice pp P.length cp, .slice pt T.length ct] 40)).alloc (.cells #[.slice pf F.length cf] 42) := ⟨_, rfl⟩
  have hB : Below w.heap.size w W := by rw [hW]; exact ((Below.refl _ _).alloc (Nat.le_refl _) _).alloc (by simp) _
  have bF : BoxN W (w.heap.size + 1) 42 [.slice pf F.length cf] := by rw [hW]; exact BoxN.new _ _ _ _ (by simp)
  rw [← hW]
  clear hW
  refine (checks_ok (HH.out.below hB) _ (bF.cell 0 rfl) (hg.below hB)).mono ?_
  rintro e w1 ⟨_, rfl, rfl, hb1⟩
  have hB1 := hB.trans (hb1.mono hB.size)
  clear hb1 hB bF
  go_wp2_with fail
  refine (HMIN.out w1 hB1 (hg.below hB1)).mono ?_
  rintro e w2 ⟨_, rfl, rfl, hb2⟩
  have hB2 := hB1.trans (hb2.mono hB1.size)
  clear hb2 hB1
  go_wp2_with fail
  refine (HMAX.out w2 hB2 (hg.below hB2)).mono ?_
  rintro e w3 ⟨_, rfl, rfl, hb3⟩
  have hB3 := hB2.trans (hb3.mono hB2.size)
  go_wp2_with fail
  go_ret3
  exact ⟨_, rfl, rfl, hB3⟩

set_option maxHeartbeats 2000000 in
set_option maxRecDepth 100000 in
/-- At, where the value on the lower surface is an error. -/
theorem at_err (w : World) (vp vt vl vu : Value) (P : List PtQ) (T : List Tri) (k : Nat) (L U : List Rat) (h : PairIn w vp vt vl vu P T k L U) (px py : ByteArray) (e0 : Int) (he : e0 ≠ 0)
    (HV : ∀ w, PairIn w vp vt vl vu P T k L U → Good w → Calls Tryz.prog 33 #[.agg #[vp, vt], vl, .agg #[.string px, .string py]] w (Ret (fun r _ => r = .tuple #[.string ⟨#[]⟩, .int .i64 e0]) w)) (hg : Good w) :
    Calls Tryz.prog 30 #[.agg #[vp, vt, vl, vu], .agg #[.string px, .string py]] w (Ret (fun r _ => r = .tuple #[.string ⟨#[]⟩, .int .i64 e0]) w) := by
  have HH := Lib.hid h
  have HVV := Lib.hid HV
  have he2 : (e0 == 0) = false := beq_eq_false_iff_ne.2 he
  obtain ⟨pp, cp, pt, ct, pl, cl, pu, cu, rfl, rfl, rfl, rfl⟩ := h.open
  clear h HV
  go_enter Tryz.func30, Tryz.ntmps30
  go_wp2_with fail
  obtain ⟨W, hW⟩ : ∃ W, W = (w.alloc (.cells #[.slice pp P.length cp, .slice pt T.length ct, .slice pl L.length cl, .slice pu U.length cu] 44)).alloc (.cells #[.string px, .string py] 54) := ⟨_, rfl⟩
  have hB : Below w.heap.size w W := by rw [hW]; exact ((Below.refl _ _).alloc (Nat.le_refl _) _).alloc (by simp) _
  have b3 : BoxN W (w.heap.size + 1) 54 [.string px, .string py] := by rw [hW]; exact BoxN.new _ _ _ _ (by simp)
  have b2 : BoxN W w.heap.size 44 [.slice pp P.length cp, .slice pt T.length ct, .slice pl L.length cl, .slice pu U.length cu] := by
    rw [hW]
    have h1 := (BoxN.new w #[.slice pp P.length cp, .slice pt T.length ct, .slice pl L.length cl, .slice pu U.length cu] 44 _ rfl)
    exact h1.below ((Below.refl _ _).alloc (Nat.le_refl _) _) h1.lt
  rw [← hW]
  clear hW
  refine (tcheck_ok W _ _ _ _ P T k L U (HH.out.below hB) (hg.below hB)).mono ?_
  rintro e w1 ⟨_, rfl, rfl, hb1⟩
  have hB1 := hB.trans (hb1.mono hB.size)
  have b31 := b3.below hb1 b3.lt
  have b21 := b2.below hb1 b2.lt
  have c0 := b21.cell 0 rfl
  have c1 := b21.cell 1 rfl
  have c2 := b21.cell 2 rfl
  have y0 := b31.cell 0 rfl
  have y1 := b31.cell 1 rfl
  clear hb1 hB b3 b2
  go_wp2_with fail
  refine (HVV.out w1 (HH.out.below hB1) (hg.below hB1)).mono ?_
  rintro e w2 ⟨_, rfl, rfl, hb2⟩
  have hB2 := hB1.trans (hb2.mono hB1.size)
  clear hb2 hB1 c0 c1 c2 y0 y1
  go_wp2_with fail
  go_ret2
  exact ⟨_, rfl, rfl, hB2⟩

set_option maxHeartbeats 2000000 in
set_option maxRecDepth 100000 in
theorem at_ok (w : World) (vp vt vl vu : Value) (P : List PtQ) (T : List Tri) (k : Nat) (L U : List Rat) (h : PairIn w vp vt vl vu P T k L U) (px py : ByteArray) (a b : Rat) (m : Nat) (hm0 : 0 < m) (hm : m ≤ 20000) (ha : Sz m a) (hb : Sz m b) (hd : Sz 200 (b - a))
    (HA : ∀ w, PairIn w vp vt vl vu P T k L U → Good w → Calls Tryz.prog 33 #[.agg #[vp, vt], vl, .agg #[.string px, .string py]] w (Ret (fun r _ => r = .tuple #[.string (RS a), .int .i64 0]) w))
    (HB : ∀ w, PairIn w vp vt vl vu P T k L U → Good w → Calls Tryz.prog 33 #[.agg #[vp, vt], vu, .agg #[.string px, .string py]] w (Ret (fun r _ => r = .tuple #[.string (RS b), .int .i64 0]) w)) (hg : Good w) :
    Calls Tryz.prog 30 #[.agg #[vp, vt, vl, vu], .agg #[.string px, .string py]] w (Ret (fun r _ => r = .tuple #[.string (RS (b - a)), .int .i64 0]) w) := by
  have HH := Lib.hid h
  have HVA := Lib.hid HA
  have HVB := Lib.hid HB
  have HSUB : Hid (∀ w, Good w → _) := fun w hg => ratSub_any b a m hm0 hm hb ha w hg
  have HSH : Hid (∀ w, Good w → _) := fun w hg => short_ok (b - a) hd w hg
  generalize b - a = d at *
  generalize RS d = ds at *
  generalize RS a = sta at *
  generalize RS b = stb at *
  obtain ⟨pp, cp, pt, ct, pl, cl, pu, cu, rfl, rfl, rfl, rfl⟩ := h.open
  clear h HA HB ha hb hd
  go_enter Tryz.func30, Tryz.ntmps30
  go_wp2_with fail
  obtain ⟨W, hW⟩ : ∃ W, W = (w.alloc (.cells #[.slice pp P.length cp, .slice pt T.length ct, .slice pl L.length cl, .slice pu U.length cu] 44)).alloc (.cells #[.string px, .string py] 54) := ⟨_, rfl⟩
  have hB : Below w.heap.size w W := by rw [hW]; exact ((Below.refl _ _).alloc (Nat.le_refl _) _).alloc (by simp) _
  have b3 : BoxN W (w.heap.size + 1) 54 [.string px, .string py] := by rw [hW]; exact BoxN.new _ _ _ _ (by simp)
  have b2 : BoxN W w.heap.size 44 [.slice pp P.length cp, .slice pt T.length ct, .slice pl L.length cl, .slice pu U.length cu] := by
    rw [hW]
    have h1 := (BoxN.new w #[.slice pp P.length cp, .slice pt T.length ct, .slice pl L.length cl, .slice pu U.length cu] 44 _ rfl)
    exact h1.below ((Below.refl _ _).alloc (Nat.le_refl _) _) h1.lt
  rw [← hW]
  clear hW
  refine (tcheck_ok W _ _ _ _ P T k L U (HH.out.below hB) (hg.below hB)).mono ?_
  rintro e w1 ⟨_, rfl, rfl, hb1⟩
  have hB1 := hB.trans (hb1.mono hB.size)
  have b31 := b3.below hb1 b3.lt
  have b21 := b2.below hb1 b2.lt
  have c0 := b21.cell 0 rfl
  have c1 := b21.cell 1 rfl
  have c2 := b21.cell 2 rfl
  have y0 := b31.cell 0 rfl
  have y1 := b31.cell 1 rfl
  clear hb1 hB b3 b2
  go_wp2_with fail
  refine (HVA.out w1 (HH.out.below hB1) (hg.below hB1)).mono ?_
  rintro e w2 ⟨_, rfl, rfl, hb2⟩
  have hB2 := hB1.trans (hb2.mono hB1.size)
  have b32 := b31.below hb2 b31.lt
  have b22 := b21.below hb2 b21.lt
  clear hb2 hB1 c0 c1 c2 y0 y1 b31 b21
  have c0 := b22.cell 0 rfl
  have c1 := b22.cell 1 rfl
  have c3 := b22.cell 3 rfl
  have y0 := b32.cell 0 rfl
  have y1 := b32.cell 1 rfl
  go_wp2_with fail
  refine (HVB.out w2 (HH.out.below hB2) (hg.below hB2)).mono ?_
  rintro e w3 ⟨_, rfl, rfl, hb3⟩
  have hB3 := hB2.trans (hb3.mono hB2.size)
  clear hb3 hB2 c0 c1 c3 y0 y1 b32 b22
  go_wp2_with fail
  refine (HSUB.out w3 (hg.below hB3)).mono ?_
  rintro e w4 ⟨_, rfl, rfl, hb4⟩
  have hB4 := hB3.trans (hb4.mono hB3.size)
  clear hb4 hB3
  go_wp2_with fail
  refine (HSH.out w4 (hg.below hB4)).mono ?_
  rintro e w5 ⟨_, rfl, rfl, hb5⟩
  have hB5 := hB4.trans (hb5.mono hB4.size)
  go_wp2_with fail
  go_ret2
  exact ⟨_, rfl, rfl, hB5⟩

theorem foldl_take_step {f : Rat → Rat → Rat} (a : Rat) (l : List Rat) (i : Nat) (h : i < l.length) : (l.take (i + 1)).foldl f a = f ((l.take i).foldl f a) l[i] := by
  rw [List.take_succ_eq_append_getElem h, List.foldl_append]
  rfl
theorem lowQ_fold (l : List Rat) (h : 0 < l.length) : l.foldl minQ l[0] = lowQ l := by
  cases l with
  | nil => simp at h
  | cons a l => show l.foldl minQ (minQ a a) = l.foldl minQ a; rw [minQ_eq rfl]
theorem highQ_fold (l : List Rat) (h : 0 < l.length) : l.foldl maxQ l[0] = highQ l := by
  cases l with
  | nil => simp at h
  | cons a l => show l.foldl maxQ (maxQ a a) = l.foldl maxQ a; rw [maxQ_eq rfl]
theorem Sz.min {k : Nat} {p q : Rat} (hp : Sz k p) (hq : Sz k q) : Sz k (minQ p q) := by unfold minQ; split <;> assumption
theorem Sz.max {k : Nat} {p q : Rat} (hp : Sz k p) (hq : Sz k q) : Sz k (maxQ p q) := by unfold maxQ; split <;> assumption
set_option maxHeartbeats 2000000 in
set_option maxRecDepth 100000 in
theorem extremes_ok (w : World) (vp vt vl vu : Value) (P : List PtQ) (T : List Tri) (k : Nat) (L U : List Rat) (h : PairIn w vp vt vl vu P T k L U) (hk : k ≤ 90) (hg : Good w) :
    Calls Tryz.prog 31 #[.agg #[vp, vt, vl, vu]] w (Ret (fun r _ => r = .tuple #[.string (RS (lowQ (difQ L U))), .string (RS (highQ (difQ L U))), .int .i64 0]) w) := by
  have HV : Hid (∀ w', Below w.heap.size w w' → Good w' → _) := fun w' hb hg' => vertical_ok w' vp vt vl vu P T k L U (h.below hb) hk hg'
  have hlen : L.length = U.length := by rw [h.l.fl, h.u.fl]
  have hul := h.u.fl
  have hpl := h.l.m.plen
  have HDZ : Hid (∀ q ∈ difQ L U, Sz 200 q) := fun q hq => (difQ_Sz h.l.fs h.u.fs q hq).mono (by omega)
  have hdl : (difQ L U).length = P.length := by rw [difQ_length _ _ hlen, hul]
  have hp0 : 0 < P.length := by
    obtain ⟨tr, htr⟩ := List.exists_mem_of_ne_nil _ h.l.m.some
    have := h.l.m.idx tr htr tr.1 (by simp [idxOf])
    omega
  obtain ⟨pp, cp, pt, ct, pl, cl, pu, cu, rfl, rfl, rfl, rfl⟩ := h.open
  generalize difQ L U = D at *
  have hn0 : 0 < D.length := by omega
  have hn4 : D.length ≤ 400 := by omega
  have HLO := Lib.hid (lowQ_fold D hn0)
  have HHI := Lib.hid (highQ_fold D hn0)
  clear h hlen hul hpl hdl hp0
  go_enter Tryz.func31, Tryz.ntmps31
  go_wp2_with fail
  obtain ⟨W, hW⟩ : ∃ W, W = w.alloc (.cells #[.slice pp P.length cp, .slice pt T.length ct, .slice pl L.length cl, .slice pu U.length cu] 44) := ⟨_, rfl⟩
  have hB : Below w.heap.size w W := by rw [hW]; exact (Below.refl _ _).alloc (Nat.le_refl _) _
  rw [← hW]
  clear hW
  refine (HV.out W hB (hg.below hB)).mono ?_
  rintro e w1 ⟨_, rfl, ⟨vd, rfl, hrd⟩, hb1⟩
  have hB1 := hB.trans (hb1.mono hB.size)
  obtain ⟨pd, cd, rfl, hdc, hdm, hdr⟩ := hrd.open
  obtain ⟨bd, od, rfl, hbd, hdcell⟩ := hdr (List.ne_nil_of_length_pos hn0)
  have HDC := Lib.hid hdcell
  have z0 := hdcell 0 hn0
  rw [Nat.add_zero] at z0
  have hs0 := HDZ.out _ (List.getElem_mem hn0)
  obtain ⟨d0, hd0⟩ : ∃ d, d = D[0] := ⟨_, rfl⟩
  rw [← hd0] at z0 hs0
  have HD0 := Lib.hid hd0
  have HS0 := Lib.hid hs0
  have hne : ¬ D.length = 0 := by omega
  clear hb1 hB hrd hdr hdcell hd0 hs0 HV
  go_upto_region 4 with fail
  go_quiet (fail)
  go_wp2_with fail
  obtain ⟨w2, hw2⟩ : ∃ w2, w2 = w1.drewN nq := ⟨_, rfl⟩
  have hb2 : Below w1.heap.size w1 w2 := by rw [hw2]; exact below_drewN w1 nq
  rw [← hw2]
  clear hw2
  have hB2 := hB1.trans (hb2.mono hB1.size)
  clear z0 hB1
  go_loopw [2, 3, 24] (fun t2 t3 t24 wr => ∃ (i : Nat) (a b : Rat), t2 = .string (RS a) ∧ t3 = .string (RS b) ∧ t24 = .int .i64 i ∧ i ≤ D.length ∧ Hid (a = (D.take i).foldl minQ d0) ∧ Hid (b = (D.take i).foldl maxQ d0) ∧ Hid (Sz 200 a) ∧ Hid (Sz 200 b) ∧ Below w2.heap.size w2 wr) (fun _ _ t24 _ => D.length - (RowKit.intOf t24).toNat)
  case atStart => exact ⟨0, d0, d0, rfl, rfl, rfl, Nat.zero_le _, rfl, rfl, HS0, HS0, Below.refl _ _⟩
  case round =>
    obtain ⟨i, a, b, rfl, rfl, rfl, hi, HA, HB, HZA, HZB, hbl⟩ := hrel
    have hbW := hB2.trans (hbl.mono hB2.size)
    rcases Nat.lt_or_ge i D.length with h | h
    · have hc := (hbl.cell (p := ⟨bd, od + i, none⟩) (by show bd < w2.heap.size; have := hb2.size; omega)).trans ((hb2.cell (p := ⟨bd, od + i, none⟩) hbd).trans (HDC.out i h))
      have zx := HDZ.out _ (List.getElem_mem h)
      have HNA : Hid ((D.take (i + 1)).foldl minQ d0 = minQ a D[i]) := by unfold Hid; rw [foldl_take_step d0 D i h, ← HA.out]
      have HNB : Hid ((D.take (i + 1)).foldl maxQ d0 = maxQ b D[i]) := by unfold Hid; rw [foldl_take_step d0 D i h, ← HB.out]
      have hin : (i : Int) < (D.length : Int) := by omega
      generalize D[i]'_ = x at *
      have HMI : Hid (∀ w, Good w → _) := fun w hg => ratMin_any a x 200 (by omega) (by omega) HZA.out zx w hg
      have HMA : Hid (∀ w, Good w → _) := fun w hg => ratMax_any b x 200 (by omega) (by omega) HZB.out zx w hg
      have HZ1 : Hid (Sz 200 (minQ a x)) := Sz.min HZA.out zx
      have HZ2 : Hid (Sz 200 (maxQ b x)) := Sz.max HZB.out zx
      generalize minQ a x = a' at *
      generalize maxQ b x = b' at *
      clear zx HA HB HZA HZB
      go_wp2_with fail
      refine (HMI.out wr (hg.below hbW)).mono ?_
      rintro e w3 ⟨_, rfl, rfl, hb3⟩
      have hB3 := hbW.trans (hb3.mono hbW.size)
      have hbl3 := hbl.trans (hb3.mono hbl.size)
      clear hb3 hc
      go_wp2_with fail
      refine (HMA.out w3 (hg.below hB3)).mono ?_
      rintro e w4 ⟨_, rfl, rfl, hb4⟩
      have hbl4 := hbl3.trans (hb4.mono hbl3.size)
      clear hb4
      go_wp2_with fail
      go_roundw
      case rel => exact ⟨i + 1, a', b', rfl, rfl, by go_num, h, HNA.out.symm, HNB.out.symm, HZ1, HZ2, hbl4⟩
      case measure => simp [RowKit.intOf]; omega
    · have HFA : Hid (a = lowQ D) := by have := HA.out; rw [List.take_of_length_le h, HD0.out, HLO.out] at this; exact this
      have HFB : Hid (b = highQ D) := by have := HB.out; rw [List.take_of_length_le h, HD0.out, HHI.out] at this; exact this
      clear HA HB HZA HZB
      go_wp2_with fail
      go_ret3
      exact ⟨_, rfl, by rw [HFA.out, HFB.out]; rfl, hbW⟩

end Go.Proofs.YtjfjkiibmfgplaaGreatDoor
