/- Thickness: parallel, Squared, Toward, differences. -/
import Derived.Test.YtjfjkiibmfgplaaGreatDoorK1
import Derived.Deep.RegionLaw
import Derived.Deep.AppendLies
/- The walk over thickness.parallel of equal slopes. -/
namespace Go.Proofs.YtjfjkiibmfgplaaGreatDoor
open Go.RowKit Go.Lib

/-- Where the numbers of a triangle and of a field's heights lie. -/
theorem FieldIn.tri {w : World} {vp vt vf : Value} {P : List PtQ} {T : List Tri} {k : Nat} {F : List Rat} (h : FieldIn w vp vt vf P T k F) (t : Nat) (htl : t < T.length) : ∃ b off ct, vt = .slice (some ⟨b, off, none⟩) T.length ct ∧ b < w.heap.size ∧
    w.cell? ⟨b, off + t * 3, none⟩ = some (.int .i64 T[t].1) ∧ w.cell? ⟨b, off + t * 3 + 1, none⟩ = some (.int .i64 T[t].2.1) ∧ w.cell? ⟨b, off + t * 3 + 2, none⟩ = some (.int .i64 T[t].2.2) := by
  obtain ⟨pt, ct, rfl, _, _, hr⟩ := h.t.open
  obtain ⟨b, off, rfl, hb, hc⟩ := hr (List.ne_nil_of_length_pos (by omega))
  obtain ⟨e0, e1, e2⟩ := hc t htl
  exact ⟨b, off, ct, rfl, hb, e0, e1, e2⟩
theorem FieldIn.hgt {w : World} {vp vt vf : Value} {P : List PtQ} {T : List Tri} {k : Nat} {F : List Rat} (h : FieldIn w vp vt vf P T k F) (m : Nat) (hm : m < F.length) : ∃ b off cf, vf = .slice (some ⟨b, off, none⟩) F.length cf ∧ b < w.heap.size ∧
    w.cell? ⟨b, off + m, none⟩ = some (.string (RS (hI F (m : Int)))) := by
  obtain ⟨pf, cf, rfl, _, _, hr⟩ := h.f.open
  obtain ⟨b, off, rfl, hb, hc⟩ := hr (by intro e; rw [e] at hm; simp at hm)
  exact ⟨b, off, cf, rfl, hb, by rw [hI_nat F m hm]; exact hc m hm⟩

set_option maxHeartbeats 4000000 in
set_option maxRecDepth 100000 in
theorem par_ok (w : World) (vp vt vl vu : Value) (P : List PtQ) (T : List Tri) (k : Nat) (L U : List Rat) (h : PairIn w vp vt vl vu P T k L U) (t : Nat) (tz : Int) (htz : tz = (t : Int)) (htl : t < T.length) (tr : Tri) (htr : tr = T[t])
    (hs1 : SzP 200 (slopeT P L tr)) (heq : slopeT P L tr = slopeT P U tr) (hg : Good w) :
    Calls Tryz.prog 51 #[.agg #[vp, vt, vl, vu], .int .i64 tz] w (Ret (fun r _ => r = .tuple #[.agg #[.string (RS (slopeT P L tr).1), .string (RS (slopeT P L tr).2)], .string (RS (hI U tr.1 - hI L tr.1)), .int .i64 0]) w) := by
  have HH := Lib.hid h
  have hkp := h.l.m.kpos
  have hk2 := h.l.m.klim2
  have hidx := h.l.m.idx T[t] (List.getElem_mem htl)
  have hfl := h.l.fl
  have hfu := h.u.fl
  have htlen := h.l.m.tlen
  obtain ⟨pp, cp, rfl, _⟩ := h.l.p.open
  obtain ⟨bt, ot, ct, rfl, hbt, e0, _, _⟩ := h.l.tri t htl
  have HS : Hid (∀ (w : World), PairIn w (.slice pp (strP P).length cp) (.slice (some ⟨bt, ot, none⟩) T.length ct) vl vu P T k L U → Good w → _) := fun w h hg => slopes_ok w _ _ _ _ P T k L U h t tz htz htl tr htr hs1 (heq ▸ hs1) hg
  rw [← heq] at HS
  have hin : 0 ≤ tr.1 ∧ tr.1 < (P.length : Int) := by rw [htr]; exact hidx T[t].1 (by simp [idxOf])
  obtain ⟨m, hm⟩ : ∃ m : Nat, tr.1 = (m : Int) := ⟨tr.1.toNat, by omega⟩
  rw [← htr, hm] at e0
  rw [hm] at hin ⊢
  obtain ⟨bl, ol, cl, rfl, hbl, e1⟩ := h.l.hgt m (by omega)
  obtain ⟨bu, ou, cu, rfl, hbu, e2⟩ := h.u.hgt m (by omega)
  have HZ1 : Hid (Sz k (hI L (m : Int))) := by unfold Hid; rw [hI_nat L m (by omega)]; exact h.l.fs _ (List.getElem_mem _)
  have HZ2 : Hid (Sz k (hI U (m : Int))) := by unfold Hid; rw [hI_nat U m (by omega)]; exact h.u.fs _ (List.getElem_mem _)
  generalize slopeT P L tr = S1 at *
  generalize hI L (m : Int) = hl at *
  generalize hI U (m : Int) = hu at *
  have i0 := idx_T0
  have hm1 : (m : Int) < (L.length : Int) := by omega
  have hm2 : (m : Int) < (U.length : Int) := by omega
  have ht2 : (t : Int) < (T.length : Int) := by omega
  subst htz
  have e' : (RS S1.1).toList = (RS S1.1).toList := rfl
  clear h htr hs1 heq hidx hm hin e' hfl hfu
  rw [strP_length] at *
  go_enter Tryz.func51, Tryz.ntmps51
  go_wp2_with fail
  obtain ⟨W, hW⟩ : ∃ W, W = (w.alloc (.cells #[.slice pp P.length cp, .slice (some ⟨bt, ot, none⟩) T.length ct, .slice (some ⟨bl, ol, none⟩) L.length cl, .slice (some ⟨bu, ou, none⟩) U.length cu] 44)).alloc (.cells #[.string ⟨#[]⟩, .string ⟨#[]⟩] 54) := ⟨_, rfl⟩
  have hB : Below w.heap.size w W := by rw [hW]; exact ((Below.refl _ _).alloc (Nat.le_refl _) _).alloc (by simp) _
  have b2 : BoxN W w.heap.size 44 [.slice pp P.length cp, .slice (some ⟨bt, ot, none⟩) T.length ct, .slice (some ⟨bl, ol, none⟩) L.length cl, .slice (some ⟨bu, ou, none⟩) U.length cu] := by
    rw [hW]
    have h1 := (BoxN.new w #[.slice pp P.length cp, .slice (some ⟨bt, ot, none⟩) T.length ct, .slice (some ⟨bl, ol, none⟩) L.length cl, .slice (some ⟨bu, ou, none⟩) U.length cu] 44 _ rfl)
    exact h1.below ((Below.refl _ _).alloc (Nat.le_refl _) _) h1.lt
  have b4 : BoxN W (w.heap.size + 1) 54 [.string ⟨#[]⟩, .string ⟨#[]⟩] := by rw [hW]; exact BoxN.new _ _ _ _ (by simp)
  rw [← hW]
  clear hW
  refine (HS.out _ (HH.out.below hB) (hg.below hB)).mono ?_
  rintro e w1 ⟨_, rfl, rfl, hb1⟩
  have hB1 := hB.trans (hb1.mono hB.size)
  have b41 := b4.below hb1 b4.lt
  have b21 := b2.below hb1 b2.lt
  have hz := b41.lt
  clear hb1 hB b4 b2
  obtain ⟨W2, hW2⟩ : ∃ W2, W2 = (w1.alloc (.cells #[.string (RS S1.1), .string (RS S1.2)] 54)).alloc (.cells #[.string (RS S1.1), .string (RS S1.2)] 54) := ⟨_, rfl⟩
  have hb2 : Below w1.heap.size w1 W2 := by rw [hW2]; exact ((Below.refl _ _).alloc (Nat.le_refl _) _).alloc (by simp) _
  have b7 : BoxN W2 w1.heap.size 54 [.string (RS S1.1), .string (RS S1.2)] := by rw [hW2]; exact (BoxN.new w1 #[.string (RS S1.1), .string (RS S1.2)] 54 _ rfl).below ((Below.refl _ _).alloc (Nat.le_refl _) _) (by simp)
  have b8 : BoxN W2 (w1.heap.size + 1) 54 [.string (RS S1.1), .string (RS S1.2)] := by rw [hW2]; exact BoxN.new _ _ _ _ (by simp)
  have b42 := b41.below hb2 hz
  have b22 := b21.below hb2 b21.lt
  have hB2 := hB1.trans (hb2.mono hB1.size)
  have c0 := b22.cell 0 rfl
  have c1 := b22.cell 1 rfl
  have c2 := b22.cell 2 rfl
  have c3 := b22.cell 3 rfl
  have x0 := b7.cell 0 rfl
  have x1 := b7.cell 1 rfl
  have y0 := b8.cell 0 rfl
  have y1 := b8.cell 1 rfl
  have k0 := (hB2.cell (p := ⟨bt, ot + t * 3, none⟩) hbt).trans e0
  have k1 := (hB2.cell (p := ⟨bl, ol + m, none⟩) hbl).trans e1
  have k2 := (hB2.cell (p := ⟨bu, ou + m, none⟩) hbu).trans e2
  have hz2 := b42.lt
  clear e0 e1 e2
  go_upto_region 2 with fail
  rw [← hW2]
  clear hW2 b41 hb2 hB1 b21
  go_upto_region 7 with fail
  have hgd : Good W2.drew := (hg.below hB2).drewN 1
  have hl1 : w.heap.size + 1 < W2.heap.size := hz2
  have d0 := b42.cell 0 rfl
  have d1 := b42.cell 1 rfl
  have d2 := b42.frozen 0
  have d3 := b42.frozen 1
  have hfin : ∀ w4 : World, Below W2.drew.heap.size W2.drew w4 → (w4.cell? ⟨w1.heap.size, 0, none⟩ = some (.string (RS S1.1))) ∧ (w4.cell? ⟨w1.heap.size, 1, none⟩ = some (.string (RS S1.2))) ∧ BoxN w4 (w.heap.size + 1) 54 [.string ⟨#[]⟩, .string ⟨#[]⟩] ∧ Below w.heap.size w w4 := fun w4 hb4 => by
    have hb4' : Below W2.heap.size W2 w4 := (below_drewN W2 1).trans hb4
    exact ⟨(hb4'.cell (p := ⟨w1.heap.size, 0, none⟩) b7.lt).trans x0, (hb4'.cell (p := ⟨w1.heap.size, 1, none⟩) b7.lt).trans x1, b42.below hb4' hz2, hB2.trans (hb4'.mono hB2.size)⟩
  have HF := Lib.hid hfin
  clear hfin
  go_region_law (go_simp; go_at_call 57; refine (ratSub_any hu hl k hkp (by omega) HZ2.out HZ1.out _ hgd).mono ?_; rintro e w4 ⟨_, rfl, rfl, hb4⟩; obtain ⟨x0', x1', b44, hB4⟩ := HF.out _ hb4; have d0' := b44.cell 0 rfl; have d1' := b44.cell 1 rfl; have d2' := b44.frozen 0; have d3' := b44.frozen 1)
  all_goals
    go_wp2_with fail
    have BF := (b44.set 0 (.string (RS S1.1))).set 1 (.string (RS S1.2))
    have hBF := (hB4.setCell (p := ⟨w.heap.size + 1, 0, none⟩) (by show w.heap.size ≤ w.heap.size + 1; omega) (.string (RS S1.1))).setCell (p := ⟨w.heap.size + 1, 1, none⟩) (by show w.heap.size ≤ w.heap.size + 1; omega) (.string (RS S1.2))
    have g0 := BF.cell 0 rfl
    have g1 := BF.cell 1 rfl
    exact bodyPost_ret (v := .tuple #[.agg #[.string (RS S1.1), .string (RS S1.2)], .string (RS (hu - hl)), .int .i64 0]) (by simp [results, Tryz.results51, go_sem, g0, g1]) rfl ⟨_, rfl, rfl, hBF⟩

end Go.Proofs.YtjfjkiibmfgplaaGreatDoor

/- The walks over rational.Div by 0 and thickness.Squared. -/
namespace Go.Proofs.YtjfjkiibmfgplaaGreatDoor
open Go.RowKit Go.Lib

theorem ratDiv_zero (p : Rat) (w : World) :
    Calls Tryz.prog 52 #[.string (RS p), .string (RS 0)] w (Ret (fun v _ => v = .tuple #[.string ⟨#[]⟩, .int .i64 17]) w) := by
  have h8 := RS_eq48 0
  rw [decide_eq_true rfl] at h8
  generalize RS 0 = s at *
  go_enter Tryz.func52, Tryz.ntmps52
  go_wp2_with fail
  go_ret2
  exact ⟨_, rfl, rfl, Below.refl _ _⟩

theorem dipQ_nonneg (s : PtQ) : 0 ≤ dipQ s := by
  unfold dipQ
  have hh : ∀ x : Rat, 0 ≤ x * x := fun x => by
    rcases Rat.le_total (a := 0) (b := x) with h | h
    · exact Rat.mul_nonneg h h
    · have := Rat.mul_nonneg (a := -x) (b := -x) (by grind) (by grind)
      grind
  exact Rat.add_nonneg (hh _) (hh _)
/-- The squared true thickness. -/
def sqQ (d : Rat) (s : PtQ) : Rat := (d * d) / (1 + dipQ s)

set_option maxHeartbeats 2000000 in
set_option maxRecDepth 100000 in
theorem squared_ok (w : World) (vp vt vl vu : Value) (P : List PtQ) (T : List Tri) (k : Nat) (L U : List Rat) (h : PairIn w vp vt vl vu P T k L U) (t : Nat) (tz : Int) (htz : tz = (t : Int)) (htl : t < T.length) (tr : Tri) (htr : tr = T[t])
    (hs1 : SzP 43 (slopeT P L tr)) (heq : slopeT P L tr = slopeT P U tr) (d : Rat) (hd : d = hI U tr.1 - hI L tr.1) (hdz : Sz 9 d) (hg : Good w) :
    Calls Tryz.prog 13 #[.agg #[vp, vt, vl, vu], .int .i64 tz] w (Ret (fun r _ => r = .tuple #[.string (RS (sqQ d (slopeT P L tr))), .int .i64 0]) w) := by
  have HH := Lib.hid h
  obtain ⟨pp, cp, pt, ct, pl, cl, pu, cu, rfl, rfl, rfl, rfl⟩ := h.open
  have HS : Hid (∀ (w : World), PairIn w (.slice pp P.length cp) (.slice pt T.length ct) (.slice pl L.length cl) (.slice pu U.length cu) P T k L U → Good w → _) := fun w h hg => par_ok w _ _ _ _ P T k L U h t tz htz htl tr htr ⟨hs1.1.mono (by omega), hs1.2.mono (by omega)⟩ heq hg
  rw [← hd] at HS
  unfold sqQ
  generalize slopeT P L tr = S at *
  have hdp : Sz 173 (dipQ S) := ((hs1.1.mul hs1.1).add (hs1.2.mul hs1.2)).mono (by omega)
  have h1d : Sz 175 (1 + dipQ S) := ((Sz.one).add hdp).mono (by omega)
  have hne : (1 + dipQ S) ≠ 0 := by have := dipQ_nonneg S; grind
  have HDP := Lib.hid hdp
  have H1D := Lib.hid h1d
  have HDZ := Lib.hid hdz
  have HDD : Hid (Sz 18 (d * d)) := hdz.mul hdz
  have HQ : Hid (Sz 200 (d * d / (1 + dipQ S))) := by
    exact (HDD.out.div h1d (by omega)).mono (by omega)
  have H1 := Lib.hid hs1
  have HNE := Lib.hid hne
  have HMUL : Hid (∀ w, Good w → _) := fun w hg => ratMul_any d d 9 (by omega) (by omega) hdz hdz w hg
  have HDIP : Hid (∀ w, Good w → _) := fun w hg => dip_any S 43 (by omega) (by omega) hs1 w hg
  have HADD : Hid (∀ w, Good w → _) := fun w hg => ratAdd_any 1 (dipQ S) 173 (by omega) (by omega) ((Sz.one).mono (by omega)) hdp w hg
  rw [RS_one] at HADD
  have HDIV : Hid (∀ w, Good w → _) := fun w hg => ratDiv_any (d * d) (1 + dipQ S) 175 (by omega) (by omega) (HDD.out.mono (by omega)) h1d hne w hg
  have HSH : Hid (∀ w, Good w → _) := fun w hg => short_ok (d * d / (1 + dipQ S)) HQ.out w hg
  generalize dipQ S = dp at *
  generalize d * d / (1 + dp) = qq at *
  generalize 1 + dp = od at *
  generalize d * d = dd at *
  clear h htz htr hs1 heq hd hdz hdp h1d hne
  go_enter Tryz.func13, Tryz.ntmps13
  go_wp2_with fail
  have hB : Below w.heap.size w (w.alloc (.cells #[.slice pp P.length cp, .slice pt T.length ct, .slice pl L.length cl, .slice pu U.length cu] 44)) := (Below.refl _ _).alloc (Nat.le_refl _) _
  refine (HS.out _ (HH.out.below hB) (hg.below hB)).mono ?_
  rintro e w1 ⟨_, rfl, rfl, hb1⟩
  have hB1 := hB.trans (hb1.mono hB.size)
  clear hb1 hB
  obtain ⟨W, hW⟩ : ∃ W, W = w1.alloc (.cells #[.string (RS S.1), .string (RS S.2)] 54) := ⟨_, rfl⟩
  have hBW : Below w.heap.size w W := by rw [hW]; exact hB1.alloc hB1.size _
  have b6 : BoxN W w1.heap.size 54 [.string (RS S.1), .string (RS S.2)] := by rw [hW]; exact BoxN.new _ _ _ _ rfl
  have hz := b6.lt
  have c0 := b6.cell 0 rfl
  have c1 := b6.cell 1 rfl
  have hgd : Good W.drew := (hg.below hBW).drewN 1
  go_upto_region 4 with fail
  rw [← hW]
  clear hW
  go_region_held3 (fun w' => w'.cell? ⟨w1.heap.size, 0, none⟩ = some (.string (RS S.1)) ∧ w'.cell? ⟨w1.heap.size, 1, none⟩ = some (.string (RS S.2)))
    (first | exact ⟨c0, c1⟩ | exact ⟨p_1_0, p_1_1⟩ | exact ⟨p_2_0, p_2_1⟩ | exact ⟨p_3_0, p_3_1⟩ | exact ⟨p_4_0, p_4_1⟩)
    (first
    | (go_at_call 52; refine (HDIV.out _ pg3).mono ?_; rintro e pw4 ⟨_, rfl, rfl, pb4⟩
       have p_4_0 := (pb4.cell (p := ⟨w1.heap.size, 0, none⟩) (by show w1.heap.size < pw3.heap.size; omega)).trans p_3_0
       have p_4_1 := (pb4.cell (p := ⟨w1.heap.size, 1, none⟩) (by show w1.heap.size < pw3.heap.size; omega)).trans p_3_1
       have ps4 : pw3.heap.size ≤ pw4.heap.size := pb4.size
       have pg4 : Good pw4 := pg3.below pb4)
    | (go_at_call 54; refine (HADD.out _ pg2).mono ?_; rintro e pw3 ⟨_, rfl, rfl, pb3⟩
       have p_3_0 := (pb3.cell (p := ⟨w1.heap.size, 0, none⟩) (by show w1.heap.size < pw2.heap.size; omega)).trans p_2_0
       have p_3_1 := (pb3.cell (p := ⟨w1.heap.size, 1, none⟩) (by show w1.heap.size < pw2.heap.size; omega)).trans p_2_1
       have ps3 : pw2.heap.size ≤ pw3.heap.size := pb3.size
       have pg3 : Good pw3 := pg2.below pb3)
    | (go_at_call 55; refine (HDIP.out _ pg1).mono ?_; rintro e pw2 ⟨_, rfl, rfl, pb2⟩
       have p_2_0 := (pb2.cell (p := ⟨w1.heap.size, 0, none⟩) (by show w1.heap.size < pw1.heap.size; omega)).trans p_1_0
       have p_2_1 := (pb2.cell (p := ⟨w1.heap.size, 1, none⟩) (by show w1.heap.size < pw1.heap.size; omega)).trans p_1_1
       have ps2 : pw1.heap.size ≤ pw2.heap.size := pb2.size
       have pg2 : Good pw2 := pg1.below pb2)
    | (go_at_call 53; refine (HMUL.out _ hgd).mono ?_; rintro e pw1 ⟨_, rfl, rfl, pb1⟩
       have p_1_0 := (pb1.cell (p := ⟨w1.heap.size, 0, none⟩) (by show w1.heap.size < W.heap.size; omega)).trans c0
       have p_1_1 := (pb1.cell (p := ⟨w1.heap.size, 1, none⟩) (by show w1.heap.size < W.heap.size; omega)).trans c1
       have ps1 : W.heap.size ≤ pw1.heap.size := pb1.size
       have pg1 : Good pw1 := hgd.below pb1))
  have pB : Below W.heap.size W pw4 := (((((below_drewN W 1).trans (pb1.mono (by show W.heap.size ≤ W.heap.size; omega))).trans (pb2.mono (by show W.heap.size ≤ pw1.heap.size; omega))).trans (pb3.mono (by show W.heap.size ≤ pw2.heap.size; omega))).trans (pb4.mono (by show W.heap.size ≤ pw3.heap.size; omega)))
  go_wp2_with fail
  have hB4 := hBW.trans (pB.mono hBW.size)
  refine (HSH.out _ (hg.below hB4)).mono ?_
  rintro e w5 ⟨_, rfl, rfl, hb5⟩
  go_wp2_with fail
  go_ret2
  exact ⟨_, rfl, rfl, hB4.trans (hb5.mono hB4.size)⟩

set_option maxHeartbeats 2000000 in
set_option maxRecDepth 100000 in
theorem squared_err (w : World) (vp vt vl vu : Value) (P : List PtQ) (T : List Tri) (k : Nat) (L U : List Rat) (h : PairIn w vp vt vl vu P T k L U) (tz e : Int) (he : e ≠ 0)
    (HP : ∀ w, PairIn w vp vt vl vu P T k L U → Good w → Calls Tryz.prog 51 #[.agg #[vp, vt, vl, vu], .int .i64 tz] w (Ret (fun r _ => r = .tuple #[.agg #[.string ⟨#[]⟩, .string ⟨#[]⟩], .string ⟨#[]⟩, .int .i64 e]) w)) (hg : Good w) :
    Calls Tryz.prog 13 #[.agg #[vp, vt, vl, vu], .int .i64 tz] w (Ret (fun r _ => r = .tuple #[.string ⟨#[]⟩, .int .i64 e]) w) := by
  have HH := Lib.hid h
  obtain ⟨pp, cp, pt, ct, pl, cl, pu, cu, rfl, rfl, rfl, rfl⟩ := h.open
  have HPP := Lib.hid HP
  clear h HP
  have he2 : (e == 0) = false := beq_eq_false_iff_ne.2 he
  go_enter Tryz.func13, Tryz.ntmps13
  go_wp2_with fail
  have hB : Below w.heap.size w (w.alloc (.cells #[.slice pp P.length cp, .slice pt T.length ct, .slice pl L.length cl, .slice pu U.length cu] 44)) := (Below.refl _ _).alloc (Nat.le_refl _) _
  refine (HPP.out _ (HH.out.below hB) (hg.below hB)).mono ?_
  rintro e w1 ⟨_, rfl, rfl, hb1⟩
  have hB1 := hB.trans (hb1.mono hB.size)
  clear hb1 hB
  go_wp2_with fail
  go_ret2
  exact ⟨_, rfl, rfl, hB1.alloc hB1.size _⟩

end Go.Proofs.YtjfjkiibmfgplaaGreatDoor

/- The walk over thickness.Toward. -/
namespace Go.Proofs.YtjfjkiibmfgplaaGreatDoor
open Go.RowKit Go.Lib

/-- How fast a direction rises above a slope. -/
def riseQ (s : PtQ) (x y z : Rat) : Rat := z - (s.1 * x + s.2 * y)

set_option maxHeartbeats 2000000 in
set_option maxRecDepth 100000 in
theorem toward_number (w : World) (vp vt vl vu : Value) (P : List PtQ) (T : List Tri) (k : Nat) (L U : List Rat) (h : PairIn w vp vt vl vu P T k L U) (tz : Int) (x y z : ByteArray) (hx : x.size < 1000000000) (hy : y.size < 1000000000) (hz : z.size < 1000000000) (e : Int) (he : errNum (allQ [x, y, z]) = e) (he0 : e ≠ 0) (hg : Good w) :
    Calls Tryz.prog 14 #[.agg #[vp, vt, vl, vu], .int .i64 tz, .agg #[.string x, .string y, .string z]] w (Ret (fun r _ => r = .tuple #[.string ⟨#[]⟩, .int .i64 e]) w) := by
  have HH := Lib.hid h
  obtain ⟨pp, cp, pt, ct, pl, cl, pu, cu, rfl, rfl, rfl, rfl⟩ := h.open
  have HV : Hid (∀ w, Good w → _) := fun w hg => checkVector_any x y z hx hy hz w hg
  rw [he] at HV
  have he2 : (e == 0) = false := beq_eq_false_iff_ne.2 he0
  clear h he hx hy hz
  go_enter Tryz.func14, Tryz.ntmps14
  go_wp2_with fail
  obtain ⟨W, hW⟩ : ∃ W, W = (w.alloc (.cells #[.slice pp P.length cp, .slice pt T.length ct, .slice pl L.length cl, .slice pu U.length cu] 44)).alloc (.cells #[.string x, .string y, .string z] 35) := ⟨_, rfl⟩
  have hB : Below w.heap.size w W := by rw [hW]; exact ((Below.refl _ _).alloc (Nat.le_refl _) _).alloc (by simp) _
  have b5 : BoxN W (w.heap.size + 1) 35 [.string x, .string y, .string z] := by rw [hW]; exact BoxN.new _ _ _ _ (by simp)
  rw [← hW]
  clear hW
  refine (tcheck_ok W _ _ _ _ P T k L U (HH.out.below hB) (hg.below hB)).mono ?_
  rintro e w1 ⟨_, rfl, rfl, hb1⟩
  have hB1 := hB.trans (hb1.mono hB.size)
  have b51 := b5.below hb1 b5.lt
  have c0 := b51.cell 0 rfl
  have c1 := b51.cell 1 rfl
  have c2 := b51.cell 2 rfl
  clear hb1 hB b5
  go_wp2_with fail
  refine (HV.out _ (hg.below hB1)).mono ?_
  rintro e w2 ⟨_, rfl, rfl, hb2⟩
  go_wp2_with fail
  go_ret2
  exact ⟨_, rfl, rfl, hB1.trans (hb2.mono hB1.size)⟩

set_option maxHeartbeats 2000000 in
set_option maxRecDepth 100000 in
theorem toward_err (w : World) (vp vt vl vu : Value) (P : List PtQ) (T : List Tri) (k : Nat) (L U : List Rat) (h : PairIn w vp vt vl vu P T k L U) (tz : Int) (x y z : ByteArray) (hx : x.size < 1000000000) (hy : y.size < 1000000000) (hz : z.size < 1000000000) (hn : errNum (allQ [x, y, z]) = 0) (e : Int) (he : e ≠ 0)
    (HP : ∀ w, PairIn w vp vt vl vu P T k L U → Good w → Calls Tryz.prog 51 #[.agg #[vp, vt, vl, vu], .int .i64 tz] w (Ret (fun r _ => r = .tuple #[.agg #[.string ⟨#[]⟩, .string ⟨#[]⟩], .string ⟨#[]⟩, .int .i64 e]) w)) (hg : Good w) :
    Calls Tryz.prog 14 #[.agg #[vp, vt, vl, vu], .int .i64 tz, .agg #[.string x, .string y, .string z]] w (Ret (fun r _ => r = .tuple #[.string ⟨#[]⟩, .int .i64 e]) w) := by
  have HH := Lib.hid h
  obtain ⟨pp, cp, pt, ct, pl, cl, pu, cu, rfl, rfl, rfl, rfl⟩ := h.open
  have HV : Hid (∀ w, Good w → _) := fun w hg => checkVector_any x y z hx hy hz w hg
  rw [hn] at HV
  have HPP := Lib.hid HP
  have he2 : (e == 0) = false := beq_eq_false_iff_ne.2 he
  clear h HP hx hy hz hn
  go_enter Tryz.func14, Tryz.ntmps14
  go_wp2_with fail
  obtain ⟨W, hW⟩ : ∃ W, W = (w.alloc (.cells #[.slice pp P.length cp, .slice pt T.length ct, .slice pl L.length cl, .slice pu U.length cu] 44)).alloc (.cells #[.string x, .string y, .string z] 35) := ⟨_, rfl⟩
  have hB : Below w.heap.size w W := by rw [hW]; exact ((Below.refl _ _).alloc (Nat.le_refl _) _).alloc (by simp) _
  have b5 : BoxN W (w.heap.size + 1) 35 [.string x, .string y, .string z] := by rw [hW]; exact BoxN.new _ _ _ _ (by simp)
  have b3 : BoxN W w.heap.size 44 [.slice pp P.length cp, .slice pt T.length ct, .slice pl L.length cl, .slice pu U.length cu] := by
    rw [hW]
    have h1 := (BoxN.new w #[.slice pp P.length cp, .slice pt T.length ct, .slice pl L.length cl, .slice pu U.length cu] 44 _ rfl)
    exact h1.below ((Below.refl _ _).alloc (Nat.le_refl _) _) h1.lt
  rw [← hW]
  clear hW
  refine (tcheck_ok W _ _ _ _ P T k L U (HH.out.below hB) (hg.below hB)).mono ?_
  rintro e w1 ⟨_, rfl, rfl, hb1⟩
  have hB1 := hB.trans (hb1.mono hB.size)
  have b51 := b5.below hb1 b5.lt
  have b31 := b3.below hb1 b3.lt
  have c0 := b51.cell 0 rfl
  have c1 := b51.cell 1 rfl
  have c2 := b51.cell 2 rfl
  clear hb1 hB b5 b3
  go_wp2_with fail
  refine (HV.out _ (hg.below hB1)).mono ?_
  rintro e w2 ⟨_, rfl, rfl, hb2⟩
  have hB2 := hB1.trans (hb2.mono hB1.size)
  have b32 := b31.below hb2 b31.lt
  have d0 := b32.cell 0 rfl
  have d1 := b32.cell 1 rfl
  have d2 := b32.cell 2 rfl
  have d3 := b32.cell 3 rfl
  clear hb2 hB1 b51 b31 c0 c1 c2
  go_wp2_with fail
  refine (HPP.out _ (HH.out.below hB2) (hg.below hB2)).mono ?_
  rintro e w3 ⟨_, rfl, rfl, hb3⟩
  have hB3 := hB2.trans (hb3.mono hB2.size)
  clear hb3 hB2 b32 d0 d1 d2 d3
  go_wp2_with fail
  go_ret2
  exact ⟨_, rfl, rfl, hB3.alloc hB3.size _⟩

set_option maxHeartbeats 4000000 in
set_option maxRecDepth 100000 in
theorem toward_par (w : World) (vp vt vl vu : Value) (P : List PtQ) (T : List Tri) (k : Nat) (L U : List Rat) (h : PairIn w vp vt vl vu P T k L U) (t : Nat) (tz : Int) (htz : tz = (t : Int)) (htl : t < T.length) (tr : Tri) (htr : tr = T[t])
    (hs1 : SzP 43 (slopeT P L tr)) (heq : slopeT P L tr = slopeT P U tr) (d : Rat) (hd : d = hI U tr.1 - hI L tr.1) (hdz : Sz 9 d)
    (x y z : Rat) (hx : Sz 43 x) (hy : Sz 43 y) (hz : Sz 43 z) (res : Value) (hsz : riseQ (slopeT P L tr) x y z ≠ 0 → Sz 200 (d / riseQ (slopeT P L tr) x y z))
    (hres : (riseQ (slopeT P L tr) x y z = 0 ∧ res = .tuple #[.string ⟨#[]⟩, .int .i64 18]) ∨ (riseQ (slopeT P L tr) x y z ≠ 0 ∧ res = .tuple #[.string (RS (d / riseQ (slopeT P L tr) x y z)), .int .i64 0])) (hg : Good w) :
    Calls Tryz.prog 14 #[.agg #[vp, vt, vl, vu], .int .i64 tz, .agg #[.string (RS x), .string (RS y), .string (RS z)]] w (Ret (fun r _ => r = res) w) := by
  have HH := Lib.hid h
  obtain ⟨pp, cp, pt, ct, pl, cl, pu, cu, rfl, rfl, rfl, rfl⟩ := h.open
  have HS : Hid (∀ (w : World), PairIn w (.slice pp P.length cp) (.slice pt T.length ct) (.slice pl L.length cl) (.slice pu U.length cu) P T k L U → Good w → _) := fun w h hg => par_ok w _ _ _ _ P T k L U h t tz htz htl tr htr ⟨hs1.1.mono (by omega), hs1.2.mono (by omega)⟩ heq hg
  rw [← hd] at HS
  have hn : errNum (allQ [RS x, RS y, RS z]) = 0 := by
    unfold allQ
    simp [RS_list, rightQ_RL (hx.mono (show 43 ≤ 200 by omega)), rightQ_RL (hy.mono (show 43 ≤ 200 by omega)), rightQ_RL (hz.mono (show 43 ≤ 200 by omega)), errNum]
  have HV : Hid (∀ w, Good w → _) := fun w hg => checkVector_any (RS x) (RS y) (RS z) (by have := hx.size (by omega); omega) (by have := hy.size (by omega); omega) (by have := hz.size (by omega); omega) w hg
  rw [hn] at HV
  clear hn
  unfold riseQ at hsz hres
  generalize slopeT P L tr = S at *
  have m1 : Sz 86 (S.1 * x) := (hs1.1.mul hx).mono (by omega)
  have m2 : Sz 86 (S.2 * y) := (hs1.2.mul hy).mono (by omega)
  have m3 : Sz 173 (S.1 * x + S.2 * y) := (m1.add m2).mono (by omega)
  have m4 : Sz 217 (z - (S.1 * x + S.2 * y)) := (hz.sub m3).mono (by omega)
  have HM1 : Hid (∀ w, Good w → _) := fun w hg => ratMul_any S.1 x 60 (by omega) (by omega) (hs1.1.mono (by omega)) (hx.mono (by omega)) w hg
  have HM2 : Hid (∀ w, Good w → _) := fun w hg => ratMul_any S.2 y 60 (by omega) (by omega) (hs1.2.mono (by omega)) (hy.mono (by omega)) w hg
  have HA : Hid (∀ w, Good w → _) := fun w hg => ratAdd_any (S.1 * x) (S.2 * y) 86 (by omega) (by omega) m1 m2 w hg
  have HSB : Hid (∀ w, Good w → _) := fun w hg => ratSub_any z (S.1 * x + S.2 * y) 173 (by omega) (by omega) (hz.mono (by omega)) m3 w hg
  generalize S.1 * x = q1 at *
  generalize S.2 * y = q2 at *
  generalize q1 + q2 = q3 at *
  generalize z - q3 = ri at *
  have HDZ := Lib.hid hdz
  have HM4 := Lib.hid m4
  have HSZ := Lib.hid hsz
  have HRES := Lib.hid hres
  clear h htz htr hs1 heq hd hdz m1 m2 m3 m4 hx hy hz hsz hres
  go_enter Tryz.func14, Tryz.ntmps14
  go_wp2_with fail
  obtain ⟨W, hW⟩ : ∃ W, W = (w.alloc (.cells #[.slice pp P.length cp, .slice pt T.length ct, .slice pl L.length cl, .slice pu U.length cu] 44)).alloc (.cells #[.string (RS x), .string (RS y), .string (RS z)] 35) := ⟨_, rfl⟩
  have hB : Below w.heap.size w W := by rw [hW]; exact ((Below.refl _ _).alloc (Nat.le_refl _) _).alloc (by simp) _
  have b5 : BoxN W (w.heap.size + 1) 35 [.string (RS x), .string (RS y), .string (RS z)] := by rw [hW]; exact BoxN.new _ _ _ _ (by simp)
  have b3 : BoxN W w.heap.size 44 [.slice pp P.length cp, .slice pt T.length ct, .slice pl L.length cl, .slice pu U.length cu] := by
    rw [hW]
    have h1 := (BoxN.new w #[.slice pp P.length cp, .slice pt T.length ct, .slice pl L.length cl, .slice pu U.length cu] 44 _ rfl)
    exact h1.below ((Below.refl _ _).alloc (Nat.le_refl _) _) h1.lt
  rw [← hW]
  clear hW
  refine (tcheck_ok W _ _ _ _ P T k L U (HH.out.below hB) (hg.below hB)).mono ?_
  rintro e w1 ⟨_, rfl, rfl, hb1⟩
  have hB1 := hB.trans (hb1.mono hB.size)
  have b51 := b5.below hb1 b5.lt
  have b31 := b3.below hb1 b3.lt
  have c0 := b51.cell 0 rfl
  have c1 := b51.cell 1 rfl
  have c2 := b51.cell 2 rfl
  clear hb1 hB b5 b3
  go_wp2_with fail
  refine (HV.out _ (hg.below hB1)).mono ?_
  rintro e w2 ⟨_, rfl, rfl, hb2⟩
  have hB2 := hB1.trans (hb2.mono hB1.size)
  have b32 := b31.below hb2 b31.lt
  have b52 := b51.below hb2 b51.lt
  have d0 := b32.cell 0 rfl
  have d1 := b32.cell 1 rfl
  have d2 := b32.cell 2 rfl
  have d3 := b32.cell 3 rfl
  clear hb2 hB1 b51 b31 c0 c1 c2
  go_wp2_with fail
  refine (HS.out _ (HH.out.below hB2) (hg.below hB2)).mono ?_
  rintro e w3 ⟨_, rfl, rfl, hb3⟩
  have hB3 := hB2.trans (hb3.mono hB2.size)
  have b53 := b52.below hb3 b52.lt
  have hz3 := b53.lt
  clear hb3 hB2 b32 b52 d0 d1 d2 d3
  obtain ⟨W4, hW4⟩ : ∃ W, W = w3.alloc (.cells #[.string (RS S.1), .string (RS S.2)] 54) := ⟨_, rfl⟩
  have hb4 : Below w3.heap.size w3 W4 := by rw [hW4]; exact (Below.refl _ _).alloc (Nat.le_refl _) _
  have hBW : Below w.heap.size w W4 := by rw [hW4]; exact hB3.alloc hB3.size _
  have b6 : BoxN W4 w3.heap.size 54 [.string (RS S.1), .string (RS S.2)] := by rw [hW4]; exact BoxN.new _ _ _ _ rfl
  have b54 := b53.below hb4 hz3
  have hz := b6.lt
  have hz5 := b54.lt
  have c0 := b6.cell 0 rfl
  have c1 := b6.cell 1 rfl
  have v0 := b54.cell 0 rfl
  have v1 := b54.cell 1 rfl
  have v2 := b54.cell 2 rfl
  have hgd : Good W4.drew := (hg.below hBW).drewN 1
  go_upto_region 10 with fail
  rw [← hW4]
  clear hW4
  go_region_held3 (fun w' => w'.cell? ⟨w3.heap.size, 0, none⟩ = some (.string (RS S.1)) ∧ w'.cell? ⟨w3.heap.size, 1, none⟩ = some (.string (RS S.2)) ∧ w'.cell? ⟨w.heap.size + 1, 0, none⟩ = some (.string (RS x)) ∧ w'.cell? ⟨w.heap.size + 1, 1, none⟩ = some (.string (RS y)) ∧ w'.cell? ⟨w.heap.size + 1, 2, none⟩ = some (.string (RS z)))
    (first | exact ⟨c0, c1, v0, v1, v2⟩ | exact ⟨p_1_0, p_1_1, p_1_2, p_1_3, p_1_4⟩ | exact ⟨p_2_0, p_2_1, p_2_2, p_2_3, p_2_4⟩ | exact ⟨p_3_0, p_3_1, p_3_2, p_3_3, p_3_4⟩ | exact ⟨p_4_0, p_4_1, p_4_2, p_4_3, p_4_4⟩)
    (first
    | (go_at_call 57; refine (HSB.out _ pg3).mono ?_; rintro e pw4 ⟨_, rfl, rfl, pb4⟩
       have p_4_0 := (pb4.cell (p := ⟨w3.heap.size, 0, none⟩) (by show w3.heap.size < pw3.heap.size; omega)).trans p_3_0
       have p_4_1 := (pb4.cell (p := ⟨w3.heap.size, 1, none⟩) (by show w3.heap.size < pw3.heap.size; omega)).trans p_3_1
       have p_4_2 := (pb4.cell (p := ⟨w.heap.size + 1, 0, none⟩) (by show w.heap.size + 1 < pw3.heap.size; omega)).trans p_3_2
       have p_4_3 := (pb4.cell (p := ⟨w.heap.size + 1, 1, none⟩) (by show w.heap.size + 1 < pw3.heap.size; omega)).trans p_3_3
       have p_4_4 := (pb4.cell (p := ⟨w.heap.size + 1, 2, none⟩) (by show w.heap.size + 1 < pw3.heap.size; omega)).trans p_3_4
       have ps4 : pw3.heap.size ≤ pw4.heap.size := pb4.size
       have pg4 : Good pw4 := pg3.below pb4)
    | (go_at_call 54; refine (HA.out _ pg2).mono ?_; rintro e pw3 ⟨_, rfl, rfl, pb3⟩
       have p_3_0 := (pb3.cell (p := ⟨w3.heap.size, 0, none⟩) (by show w3.heap.size < pw2.heap.size; omega)).trans p_2_0
       have p_3_1 := (pb3.cell (p := ⟨w3.heap.size, 1, none⟩) (by show w3.heap.size < pw2.heap.size; omega)).trans p_2_1
       have p_3_2 := (pb3.cell (p := ⟨w.heap.size + 1, 0, none⟩) (by show w.heap.size + 1 < pw2.heap.size; omega)).trans p_2_2
       have p_3_3 := (pb3.cell (p := ⟨w.heap.size + 1, 1, none⟩) (by show w.heap.size + 1 < pw2.heap.size; omega)).trans p_2_3
       have p_3_4 := (pb3.cell (p := ⟨w.heap.size + 1, 2, none⟩) (by show w.heap.size + 1 < pw2.heap.size; omega)).trans p_2_4
       have ps3 : pw2.heap.size ≤ pw3.heap.size := pb3.size
       have pg3 : Good pw3 := pg2.below pb3)
    | (go_at_call 53; refine (HM2.out _ pg1).mono ?_; rintro e pw2 ⟨_, rfl, rfl, pb2⟩
       have p_2_0 := (pb2.cell (p := ⟨w3.heap.size, 0, none⟩) (by show w3.heap.size < pw1.heap.size; omega)).trans p_1_0
       have p_2_1 := (pb2.cell (p := ⟨w3.heap.size, 1, none⟩) (by show w3.heap.size < pw1.heap.size; omega)).trans p_1_1
       have p_2_2 := (pb2.cell (p := ⟨w.heap.size + 1, 0, none⟩) (by show w.heap.size + 1 < pw1.heap.size; omega)).trans p_1_2
       have p_2_3 := (pb2.cell (p := ⟨w.heap.size + 1, 1, none⟩) (by show w.heap.size + 1 < pw1.heap.size; omega)).trans p_1_3
       have p_2_4 := (pb2.cell (p := ⟨w.heap.size + 1, 2, none⟩) (by show w.heap.size + 1 < pw1.heap.size; omega)).trans p_1_4
       have ps2 : pw1.heap.size ≤ pw2.heap.size := pb2.size
       have pg2 : Good pw2 := pg1.below pb2)
    | (go_at_call 53; refine (HM1.out _ hgd).mono ?_; rintro e pw1 ⟨_, rfl, rfl, pb1⟩
       have p_1_0 := (pb1.cell (p := ⟨w3.heap.size, 0, none⟩) (by show w3.heap.size < W4.heap.size; omega)).trans c0
       have p_1_1 := (pb1.cell (p := ⟨w3.heap.size, 1, none⟩) (by show w3.heap.size < W4.heap.size; omega)).trans c1
       have p_1_2 := (pb1.cell (p := ⟨w.heap.size + 1, 0, none⟩) (by show w.heap.size + 1 < W4.heap.size; omega)).trans v0
       have p_1_3 := (pb1.cell (p := ⟨w.heap.size + 1, 1, none⟩) (by show w.heap.size + 1 < W4.heap.size; omega)).trans v1
       have p_1_4 := (pb1.cell (p := ⟨w.heap.size + 1, 2, none⟩) (by show w.heap.size + 1 < W4.heap.size; omega)).trans v2
       have ps1 : W4.heap.size ≤ pw1.heap.size := pb1.size
       have pg1 : Good pw1 := hgd.below pb1))
  have pB : Below W4.heap.size W4 pw4 := (((((below_drewN W4 1).trans (pb1.mono (by show W4.heap.size ≤ W4.heap.size; omega))).trans (pb2.mono (by show W4.heap.size ≤ pw1.heap.size; omega))).trans (pb3.mono (by show W4.heap.size ≤ pw2.heap.size; omega))).trans (pb4.mono (by show W4.heap.size ≤ pw3.heap.size; omega)))
  have hB4 := hBW.trans (pB.mono hBW.size)
  clear c0 c1 v0 v1 v2 p_1_0 p_1_1 p_1_2 p_1_3 p_1_4 p_2_0 p_2_1 p_2_2 p_2_3 p_2_4 p_3_0 p_3_1 p_3_2 p_3_3 p_3_4 p_4_0 p_4_1 p_4_2 p_4_3 p_4_4
  rcases HRES.out with ⟨h0, hr⟩ | ⟨h0, hr⟩
  · subst h0
    have HR := Lib.hid hr
    clear hr
    go_wp2_with fail
    refine (ratDiv_zero d _).mono ?_
    rintro e w5 ⟨_, rfl, rfl, hb5⟩
    go_wp2_with fail
    go_ret2
    exact ⟨_, rfl, HR.out.symm, hB4.trans (hb5.mono hB4.size)⟩
  · have HR := Lib.hid hr
    have HN := Lib.hid h0
    clear hr h0
    go_wp2_with fail
    refine (ratDiv_any d ri 217 (by omega) (by omega) (HDZ.out.mono (by omega)) HM4.out HN.out _ (hg.below hB4)).mono ?_
    rintro e w5 ⟨_, rfl, rfl, hb5⟩
    have hB5 := hB4.trans (hb5.mono hB4.size)
    have HSH := Lib.hid (HSZ.out HN.out)
    generalize d / ri = qq at *
    go_wp2_with fail
    refine (short_ok qq HSH.out _ (hg.below hB5)).mono ?_
    rintro e w6 ⟨_, rfl, rfl, hb6⟩
    go_wp2_with fail
    go_ret2
    exact ⟨_, rfl, HR.out.symm, hB5.trans (hb6.mono hB5.size)⟩

end Go.Proofs.YtjfjkiibmfgplaaGreatDoor

/- The walks over thickness.differences and double. -/
namespace Go.Proofs.YtjfjkiibmfgplaaGreatDoor
open Go.RowKit Go.Lib

theorem cell_one_str (w : World) (x : ByteArray) (E : Nat) : ∀ (j : Nat) (u : Value), [Value.string x][j]? = some u → (w.alloc (.cells #[.string x] E)).cell? ((⟨w.heap.size, 0, none⟩ : Addr).add j) = some u := cell_one_new _ _ _
theorem one_cell_str (x : ByteArray) : ∀ u ∈ [Value.string x], u.oneCell' = true := by intro u hu; simp at hu; subst hu; rfl
theorem info_str : ((Tryz.prog).info? 33).map (fun i => (i.zero, i.size, i.bytes)) = some (some (.string ⟨#[]⟩), 1, 16) := by kernel_rfl

/-- The vertical thickness at the points. -/
def difQ (L U : List Rat) : List Rat := List.zipWith (fun l u => u - l) L U
theorem difQ_length (L U : List Rat) (h : L.length = U.length) : (difQ L U).length = U.length := by unfold difQ; rw [List.length_zipWith]; omega
theorem difQ_get (L U : List Rat) (i : Nat) (h1 : i < L.length) (h2 : i < U.length) : (difQ L U)[i]? = some (U[i] - L[i]) := by
  unfold difQ
  rw [List.getElem?_zipWith]
  simp [h1, h2]
theorem take_snoc {α : Type} (l : List α) (i : Nat) (x : α) (h : l[i]? = some x) : l.take (i + 1) = l.take i ++ [x] := by
  obtain ⟨hlt, hx⟩ := List.getElem?_eq_some_iff.1 h
  rw [List.take_succ_eq_append_getElem hlt, hx]

set_option maxHeartbeats 2000000 in
set_option maxRecDepth 100000 in
theorem differences_any (w : World) (vp vt vl vu : Value) (k : Nat) (L U : List Rat) (hk : 0 < k) (hk2 : k ≤ 20000) (hL : RdQ w vl L) (hU : RdQ w vu U) (hlen : L.length = U.length) (hn : U.length ≤ 1000000) (hsL : ∀ q ∈ L, Sz k q) (hsU : ∀ q ∈ U, Sz k q) (hg : Good w) :
    Calls Tryz.prog 68 #[.agg #[vp, vt, vl, vu]] w (Ret (fun r w' => RdQ w' r (difQ L U) ∧ FreshV w.heap.size r) w) := by
  obtain ⟨pl, cl, rfl, hlc, hlm, hlr⟩ := hL.open
  obtain ⟨pu, cu, rfl, huc, hum, hur⟩ := hU.open
  obtain ⟨n, hn0⟩ : ∃ n, n = U.length := ⟨_, rfl⟩
  have HLR := Lib.hid hlr
  have HUR := Lib.hid hur
  have HL := Lib.hid hsL
  have HU := Lib.hid hsU
  have HN1 : Hid (L.length = n) := by unfold Hid; omega
  have HN2 : Hid (U.length = n) := hn0.symm
  rw [hlen, ← hn0]
  rw [← hn0] at hn huc
  have hlc' : n ≤ cl := by omega
  clear hL hU hlr hur hsL hsU hlen hn0 hlc
  obtain ⟨i0, hi, hz0, hz1, hz2⟩ := info_parts info_str
  go_enter Tryz.func68, Tryz.ntmps68
  go_wp2_with fail
  obtain ⟨W, hW⟩ : ∃ W, W = w.alloc (.cells #[vp, vt, .slice pl n cl, .slice pu n cu] 44) := ⟨_, rfl⟩
  have hB : Below w.heap.size w W := by rw [hW]; exact (Below.refl _ _).alloc (Nat.le_refl _) _
  have b0 : BoxN W w.heap.size 44 [vp, vt, .slice pl n cl, .slice pu n cu] := by rw [hW]; exact BoxN.new _ _ _ _ rfl
  have hWz : W.heap.size = w.heap.size + 1 := by rw [hW]; simp
  have c3 := b0.cell 3 rfl
  have c2 := b0.cell 2 rfl
  rw [← hW]
  clear hW
  go_loopw [3, 9] (fun t3 t9 wr => ∃ (i : Nat), t9 = .int .i64 i ∧ i ≤ n ∧ wr.ownsRow (w.heap.size + 1) 33 1 t3 i (((difQ L U).take i).map fun q => Value.string (RS q)) ∧ Below (w.heap.size + 1) W wr ∧ w.heap.size + 1 ≤ wr.heap.size) (fun _ t9 _ => n - (RowKit.intOf t9).toNat)
  case atStart => exact ⟨0, rfl, Nat.zero_le _, World.ownsRow_nil _ _ _ _, by rw [← hWz]; exact Below.refl _ _, by omega⟩
  case round =>
    obtain ⟨i, rfl, hin, hown, hbr, hzr⟩ := hrel
    obtain ⟨p3, c3', rfl⟩ := ownsRow_shape hown
    rcases Nat.lt_or_ge i n with h | h
    · obtain ⟨bl, ol, rfl, hbl, hlc⟩ := HLR.out (by intro e; have := HN1.out; rw [e] at this; simp at this; omega)
      obtain ⟨bu, ou, rfl, hbu, huc⟩ := HUR.out (by intro e; have := HN2.out; rw [e] at this; simp at this; omega)
      have l1 := hlc i (by have := HN1.out; omega)
      have u1 := huc i (by have := HN2.out; omega)
      have hq := difQ_get L U i (by have := HN1.out; omega) (by have := HN2.out; omega)
      have zl := HL.out _ (List.getElem_mem (show i < L.length by have := HN1.out; omega))
      have zu := HU.out _ (List.getElem_mem (show i < U.length by have := HN2.out; omega))
      generalize L[i]'_ = l at *
      generalize U[i]'_ = u at *
      have HTK := Lib.hid (take_snoc _ _ _ hq)
      have HZL := Lib.hid zl
      have HZU := Lib.hid zu
      have x2 := (hbr.cell (p := ⟨w.heap.size, 2, none⟩) (by show w.heap.size < w.heap.size + 1; omega)).trans c2
      have x3 := (hbr.cell (p := ⟨w.heap.size, 3, none⟩) (by show w.heap.size < w.heap.size + 1; omega)).trans c3
      have xl := (hbr.cell (p := ⟨bl, ol + i, none⟩) (by show bl < w.heap.size + 1; omega)).trans ((hB.cell (p := ⟨bl, ol + i, none⟩) hbl).trans l1)
      have xu := (hbr.cell (p := ⟨bu, ou + i, none⟩) (by show bu < w.heap.size + 1; omega)).trans ((hB.cell (p := ⟨bu, ou + i, none⟩) hbu).trans u1)
      have hgr : Good wr := ((hg.below hB).below (by rw [hWz]; exact hbr))
      clear hlc huc l1 u1 hq zl zu c2 c3
      go_wp2_with fail
      refine (ratSub_any u l k hk hk2 HZU.out HZL.out _ hgr).mono ?_
      rintro e w2 ⟨_, rfl, rfl, hb2⟩
      have hown2 := World.ownsRow.belowAll hown hb2
      have hbr2 : Below (w.heap.size + 1) W w2 := hbr.trans (hb2.mono hzr)
      have hz2' : w.heap.size + 1 ≤ w2.heap.size := Nat.le_trans hzr hb2.size
      clear hb2 hown hbr hgr x2 x3 xl xu
      go_wp2_with (at_builtin; refine wpList_append_own _ rfl _ _ 42 rfl (w.heap.size + 1) 33 i0 (.string ⟨#[]⟩) 1 16 Tryz.underlying42 hi hz0 hz1 hz2 rfl (by decide) _ _ _ rfl (hown2.alloc _) ⟨w2.heap.size, 0, none⟩ 1 1 [.string (RS (u - l))] rfl rfl (cell_one_str _ _ _) (one_cell_str _) (by unfold maxLen; omega) (by omega) (by simp; omega) ?_
                   intro v2 w3 hown3 hgrow3 _
                   have hzw3 := hgrow3.size
                   have hbr3 : Below (w.heap.size + 1) W w3 := (hbr2.alloc (by omega) _).grown hgrow3 (by simp; omega) (fun j hj => by have := (hown2.lt j hj).1; omega)
                   clear hgrow3)
      go_roundw
      case rel => exact ⟨i + 1, rfl, by omega, by rw [HTK.out, List.map_append]; exact hown3, hbr3, by simp at hzw3; omega⟩
      case measure =>
        show n - ((i : Int) + 1).toNat < n - (i : Int).toNat
        omega
    · obtain rfl : i = n := by omega
      have hfr : FreshV (w.heap.size + 1) (.slice p3 i c3') := FreshV.of_owns hown
      have hrd : RdQ wr (.slice p3 i c3') (difQ L U) := by
        have hl : (difQ L U).length = i := by rw [difQ_length _ _ (by rw [HN1.out, HN2.out]), HN2.out]
        have h1 : RdC 1 wr (.slice p3 i c3') i ((List.take i (difQ L U)).map fun q => Value.string (RS q)) := RdC.of_owns hown
        rw [List.take_of_length_le (by omega)] at h1
        unfold RdQ
        rw [hl]
        exact h1
      have hBF := hB.trans (hbr.mono (by omega))
      go_wp2_with fail
      go_ret
      exact ⟨_, rfl, ⟨hrd, fun a l c e => by have := hfr a l c e; omega⟩, hBF⟩

end Go.Proofs.YtjfjkiibmfgplaaGreatDoor
