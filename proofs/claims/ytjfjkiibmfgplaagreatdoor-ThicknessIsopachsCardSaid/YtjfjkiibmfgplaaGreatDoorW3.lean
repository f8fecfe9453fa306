/- The walks over field.on, field.number, field.Value. -/
import Derived.Test.YtjfjkiibmfgplaaGreatDoorW2
namespace Go.Proofs.YtjfjkiibmfgplaaGreatDoor
open Go.RowKit Go.Lib

/-- The value of the plane of a triangle at a place. -/
def onQ (P : List PtQ) (F : List Rat) (tr : Tri) (p : PtQ) : Rat := hI F tr.1 + (slopeT P F tr).1 * (p.1 - (ptI P tr.1).1) + (slopeT P F tr).2 * (p.2 - (ptI P tr.1).2)

set_option maxHeartbeats 4000000 in
set_option maxRecDepth 100000 in
theorem on_any (w : World) (vp vt vf : Value) (P : List PtQ) (T : List Tri) (k : Nat) (F : List Rat) (h : FieldIn w vp vt vf P T k F) (t : Nat) (tz : Int) (htz : tz = (t : Int)) (htl : t < T.length) (tr : Tri) (htr : tr = T[t]) (p : PtQ) (m : Nat) (hm0 : 0 < m) (hm : m ≤ 1000) (hs : SzP m (slopeT P F tr)) (hp : SzP m p) (hkm : k ≤ m) (hg : Good w) :
    Calls Tryz.prog 89 #[.agg #[vp, vt], vf, .int .i64 tz, .agg #[.string (RS p.1), .string (RS p.2)]] w (Ret (fun r _ => r = .string (RS (onQ P F tr p))) w) := by
  have hmem : tr ∈ T := by rw [htr]; exact List.getElem_mem htl
  obtain ⟨g0, g1⟩ := h.m.idx tr hmem tr.1 (by simp [idxOf])
  obtain ⟨q, hq⟩ : ∃ q : Nat, tr.1 = (q : Int) := ⟨tr.1.toNat, by omega⟩
  have hfl := h.fl
  have hqF : q < F.length := by omega
  have hqP : q < P.length := by omega
  have HH := Lib.hid h
  have HSL : Hid (∀ (w : World), FieldIn w vp vt vf P T k F → Good w → Calls Tryz.prog 60 #[.agg #[vp, vt], vf, .int .i64 tz] w (Ret (fun r _ => r = .agg #[.string (RS (slopeT P F tr).1), .string (RS (slopeT P F tr).2)]) w)) := fun w h hg =>
    slope_any w _ _ _ P T k F h.p h.t h.m.toMeshIn h.m.klim2 h.f h.fs h.fl t tz htz htl tr htr (h.m.turns tr hmem) hg
  obtain ⟨bt, ot, ct, rfl, hbt, e0, _, _⟩ := h.tri t htl
  obtain ⟨bf, of, cf, rfl, hbf, ef⟩ := h.hgt q hqF
  have hpp := h.p
  obtain ⟨pp, cp, rfl, _, _, hpr⟩ := hpp.open
  obtain ⟨bp, op, rfl, hbp, hpc⟩ := hpr (by intro e; have h := strP_length P; rw [e] at h; simp at h; omega)
  obtain ⟨ex, ey⟩ := hpc q (by rw [strP_length]; exact hqP)
  rw [strP_get P q hqP] at ex ey
  dsimp only at ex ey
  rw [← htr, hq] at e0
  have zo := h.m.sz _ (List.getElem_mem hqP)
  have zf := h.fs _ (List.getElem_mem hqF)
  unfold onQ
  rw [hq, hI_nat F q hqF, ptI_nat P q hqP]
  rw [hI_nat F q hqF] at ef
  rw [strP_length] at *
  generalize slopeT P F tr = S at *
  generalize P[q] = o at *
  generalize F[q] = f at *
  have d1 : Sz (2 * m + 1) (p.1 - o.1) := (hp.1.sub (zo.1.mono hkm)).mono (by omega)
  have d2 : Sz (2 * m + 1) (p.2 - o.2) := (hp.2.sub (zo.2.mono hkm)).mono (by omega)
  have m1 : Sz (3 * m + 1) (S.1 * (p.1 - o.1)) := (hs.1.mul d1).mono (by omega)
  have m2 : Sz (3 * m + 1) (S.2 * (p.2 - o.2)) := (hs.2.mul d2).mono (by omega)
  have HD1 : Hid (∀ w, Good w → _) := fun w hg => ratSub_any p.1 o.1 m hm0 (by omega) hp.1 (zo.1.mono hkm) w hg
  have HD2 : Hid (∀ w, Good w → _) := fun w hg => ratSub_any p.2 o.2 m hm0 (by omega) hp.2 (zo.2.mono hkm) w hg
  have HM1 : Hid (∀ w, Good w → _) := fun w hg => ratMul_any S.1 (p.1 - o.1) (2 * m + 1) (by omega) (by omega) (hs.1.mono (by omega)) d1 w hg
  have HM2 : Hid (∀ w, Good w → _) := fun w hg => ratMul_any S.2 (p.2 - o.2) (2 * m + 1) (by omega) (by omega) (hs.2.mono (by omega)) d2 w hg
  have HSUM : Hid (∀ (v : Value) (w : World), RdQ w v [f, S.1 * (p.1 - o.1), S.2 * (p.2 - o.2)] → Good w → _) := fun v w hr hg => ratSum_any [f, S.1 * (p.1 - o.1), S.2 * (p.2 - o.2)] (3 * m + 1) (by omega) (by simp; omega) (by
    intro q hq
    simp only [List.mem_cons, List.not_mem_nil, or_false] at hq
    rcases hq with rfl | rfl | rfl
    · exact zf.mono (by omega)
    · exact m1
    · exact m2) v w hr hg
  have hfold : [f, S.1 * (p.1 - o.1), S.2 * (p.2 - o.2)].foldl (· + ·) 0 = f + S.1 * (p.1 - o.1) + S.2 * (p.2 - o.2) := by
    simp only [List.foldl_cons, List.foldl_nil]
    grind
  rw [hfold] at HSUM
  generalize f + S.1 * (p.1 - o.1) + S.2 * (p.2 - o.2) = res at *
  generalize S.1 * (p.1 - o.1) = x1 at *
  generalize S.2 * (p.2 - o.2) = x2 at *
  generalize p.1 - o.1 = y1 at *
  generalize p.2 - o.2 = y2 at *
  have ht2 : (t : Int) < (T.length : Int) := by omega
  have hq1 : (q : Int) < (P.length : Int) := by omega
  have hq2 : (q : Int) < (F.length : Int) := by omega
  have i0 := idx_T0
  subst htz
  clear h htr hmem hpp hpr hpc hs hp zo zf d1 d2 m1 m2 hfold g0 g1 hq hqF hqP hfl
  go_enter Tryz.func89, Tryz.ntmps89
  go_wp2_with fail
  obtain ⟨W, hW⟩ : ∃ W, W = (w.alloc (.cells #[.slice (some ⟨bp, op, none⟩) P.length cp, .slice (some ⟨bt, ot, none⟩) T.length ct] 40)).alloc (.cells #[.string (RS p.1), .string (RS p.2)] 54) := ⟨_, rfl⟩
  have hB : Below w.heap.size w W := by rw [hW]; exact ((Below.refl _ _).alloc (Nat.le_refl _) _).alloc (by simp) _
  have b7 : BoxN W (w.heap.size + 1) 54 [.string (RS p.1), .string (RS p.2)] := by rw [hW]; exact BoxN.new _ _ _ _ (by simp)
  have b4 : BoxN W w.heap.size 40 [.slice (some ⟨bp, op, none⟩) P.length cp, .slice (some ⟨bt, ot, none⟩) T.length ct] := by
    rw [hW]
    have h1 := (BoxN.new w #[.slice (some ⟨bp, op, none⟩) P.length cp, .slice (some ⟨bt, ot, none⟩) T.length ct] 40 _ rfl)
    exact h1.below ((Below.refl _ _).alloc (Nat.le_refl _) _) h1.lt
  rw [← hW]
  clear hW
  refine (HSL.out W (HH.out.below hB) (hg.below hB)).mono ?_
  rintro e w1 ⟨_, rfl, rfl, hb1⟩
  have hB1 := hB.trans (hb1.mono hB.size)
  have b71 := b7.below hb1 b7.lt
  have b41 := b4.below hb1 b4.lt
  clear hb1 hB b7 b4
  go_upto_region 2 with fail
  obtain ⟨W2, hW2⟩ : ∃ W, W = w1.alloc (.cells #[.string (RS S.1), .string (RS S.2)] 54) := ⟨_, rfl⟩
  have hb2 : Below w1.heap.size w1 W2 := by rw [hW2]; exact (Below.refl _ _).alloc (Nat.le_refl _) _
  have b9 : BoxN W2 w1.heap.size 54 [.string (RS S.1), .string (RS S.2)] := by rw [hW2]; exact BoxN.new _ _ _ _ rfl
  rw [← hW2]
  clear hW2
  have hB2 := hB1.trans (hb2.mono hB1.size)
  have b72 := b71.below hb2 b71.lt
  have b42 := b41.below hb2 b41.lt
  clear hb2 hB1 b71 b41
  have x0 := b42.cell 0 rfl
  have x1' := b42.cell 1 rfl
  have k0 := (hB2.cell (p := ⟨bt, ot + t * 3, none⟩) hbt).trans e0
  have k1 := (hB2.cell (p := ⟨bp, op + q * 2, none⟩) hbp).trans ex
  have k2 := (hB2.cell (p := ⟨bp, op + q * 2 + 1, none⟩) hbp).trans ey
  go_upto_region 4 with fail
  obtain ⟨W3, hW3⟩ : ∃ W, W = W2.alloc (.cells #[.string (RS o.1), .string (RS o.2)] 54) := ⟨_, rfl⟩
  have hb3 : Below W2.heap.size W2 W3 := by rw [hW3]; exact (Below.refl _ _).alloc (Nat.le_refl _) _
  have b11 : BoxN W3 W2.heap.size 54 [.string (RS o.1), .string (RS o.2)] := by rw [hW3]; exact BoxN.new _ _ _ _ rfl
  rw [← hW3]
  clear hW3
  have hB3 := hB2.trans (hb3.mono hB2.size)
  have b73 := b72.below hb3 b72.lt
  have b93 := b9.below hb3 b9.lt
  clear hb3 hB2 b72 b9 b42 x0 x1' k0 k1 k2 e0 ex ey
  have kf := (hB3.cell (p := ⟨bf, of + q, none⟩) hbf).trans ef
  have u0 := b93.cell 0 rfl
  have u1 := b93.cell 1 rfl
  have v0 := b73.cell 0 rfl
  have v1 := b73.cell 1 rfl
  have w0 := b11.cell 0 rfl
  have w1' := b11.cell 1 rfl
  have hz1 := b93.lt
  have hz2 := b73.lt
  have hz3 := b11.lt
  have hz4 := hB3.size
  have hgd : Good W3.drew := (hg.below hB3).drewN 1
  clear ef
  go_region_held3 (fun w' => w'.cell? ⟨bf, of + q, none⟩ = some (.string (RS f)) ∧ w'.cell? ⟨w1.heap.size, 0, none⟩ = some (.string (RS S.1)) ∧ w'.cell? ⟨w.heap.size + 1, 0, none⟩ = some (.string (RS p.1)) ∧ w'.cell? ⟨W2.heap.size, 0, none⟩ = some (.string (RS o.1)) ∧ w'.cell? ⟨w1.heap.size, 1, none⟩ = some (.string (RS S.2)) ∧ w'.cell? ⟨w.heap.size + 1, 1, none⟩ = some (.string (RS p.2)) ∧ w'.cell? ⟨W2.heap.size, 1, none⟩ = some (.string (RS o.2)))
    (first | with_reducible exact ⟨kf, u0, v0, w0, u1, v1, w1'⟩ | with_reducible exact ⟨r_1_0, r_1_1, r_1_2, r_1_3, r_1_4, r_1_5, r_1_6⟩ | with_reducible exact ⟨r_2_0, r_2_1, r_2_2, r_2_3, r_2_4, r_2_5, r_2_6⟩ | with_reducible exact ⟨r_3_0, r_3_1, r_3_2, r_3_3, r_3_4, r_3_5, r_3_6⟩ | with_reducible exact ⟨r_4_0, r_4_1, r_4_2, r_4_3, r_4_4, r_4_5, r_4_6⟩ | with_reducible exact ⟨(cell_alloc_l _ r_4_0), (cell_alloc_l _ r_4_1), (cell_alloc_l _ r_4_2), (cell_alloc_l _ r_4_3), (cell_alloc_l _ r_4_4), (cell_alloc_l _ r_4_5), (cell_alloc_l _ r_4_6)⟩ | with_reducible exact ⟨r_5_0, r_5_1, r_5_2, r_5_3, r_5_4, r_5_5, r_5_6⟩ | exact ⟨kf, u0, v0, w0, u1, v1, w1'⟩ | exact ⟨r_1_0, r_1_1, r_1_2, r_1_3, r_1_4, r_1_5, r_1_6⟩ | exact ⟨r_2_0, r_2_1, r_2_2, r_2_3, r_2_4, r_2_5, r_2_6⟩ | exact ⟨r_3_0, r_3_1, r_3_2, r_3_3, r_3_4, r_3_5, r_3_6⟩ | exact ⟨r_4_0, r_4_1, r_4_2, r_4_3, r_4_4, r_4_5, r_4_6⟩ | exact ⟨(cell_alloc_l _ r_4_0), (cell_alloc_l _ r_4_1), (cell_alloc_l _ r_4_2), (cell_alloc_l _ r_4_3), (cell_alloc_l _ r_4_4), (cell_alloc_l _ r_4_5), (cell_alloc_l _ r_4_6)⟩ | exact ⟨r_5_0, r_5_1, r_5_2, r_5_3, r_5_4, r_5_5, r_5_6⟩)
    (first
    | (go_at_call 86; refine (HSUM.out _ _ (RdQ.fresh rw4 [f, x1, x2] _ _ rfl (by simp) 3 rfl _ rfl) (rg4.alloc _)).mono ?_; rintro e rw5 ⟨_, rfl, rfl, rb5_⟩
       have rb5 : Below rw4.heap.size rw4 rw5 := ((Below.refl _ _).alloc (Nat.le_refl _) _).trans (rb5_.mono (by simp))
       have r_5_0 := (rb5.cell (p := ⟨bf, of + q, none⟩) (by show bf < rw4.heap.size; omega)).trans r_4_0
       have r_5_1 := (rb5.cell (p := ⟨w1.heap.size, 0, none⟩) (by show w1.heap.size < rw4.heap.size; omega)).trans r_4_1
       have r_5_2 := (rb5.cell (p := ⟨w.heap.size + 1, 0, none⟩) (by show w.heap.size + 1 < rw4.heap.size; omega)).trans r_4_2
       have r_5_3 := (rb5.cell (p := ⟨W2.heap.size, 0, none⟩) (by show W2.heap.size < rw4.heap.size; omega)).trans r_4_3
       have r_5_4 := (rb5.cell (p := ⟨w1.heap.size, 1, none⟩) (by show w1.heap.size < rw4.heap.size; omega)).trans r_4_4
       have r_5_5 := (rb5.cell (p := ⟨w.heap.size + 1, 1, none⟩) (by show w.heap.size + 1 < rw4.heap.size; omega)).trans r_4_5
       have r_5_6 := (rb5.cell (p := ⟨W2.heap.size, 1, none⟩) (by show W2.heap.size < rw4.heap.size; omega)).trans r_4_6
       have rs5 : rw4.heap.size ≤ rw5.heap.size := rb5.size
       have rg5 : Good rw5 := rg4.below rb5)
    | (go_at_call 53; refine (HM2.out _ rg3).mono ?_; rintro e rw4 ⟨_, rfl, rfl, rb4⟩
       have r_4_0 := (rb4.cell (p := ⟨bf, of + q, none⟩) (by show bf < rw3.heap.size; omega)).trans r_3_0
       have r_4_1 := (rb4.cell (p := ⟨w1.heap.size, 0, none⟩) (by show w1.heap.size < rw3.heap.size; omega)).trans r_3_1
       have r_4_2 := (rb4.cell (p := ⟨w.heap.size + 1, 0, none⟩) (by show w.heap.size + 1 < rw3.heap.size; omega)).trans r_3_2
       have r_4_3 := (rb4.cell (p := ⟨W2.heap.size, 0, none⟩) (by show W2.heap.size < rw3.heap.size; omega)).trans r_3_3
       have r_4_4 := (rb4.cell (p := ⟨w1.heap.size, 1, none⟩) (by show w1.heap.size < rw3.heap.size; omega)).trans r_3_4
       have r_4_5 := (rb4.cell (p := ⟨w.heap.size + 1, 1, none⟩) (by show w.heap.size + 1 < rw3.heap.size; omega)).trans r_3_5
       have r_4_6 := (rb4.cell (p := ⟨W2.heap.size, 1, none⟩) (by show W2.heap.size < rw3.heap.size; omega)).trans r_3_6
       have rs4 : rw3.heap.size ≤ rw4.heap.size := rb4.size
       have rg4 : Good rw4 := rg3.below rb4)
    | (go_at_call 57; refine (HD2.out _ rg2).mono ?_; rintro e rw3 ⟨_, rfl, rfl, rb3⟩
       have r_3_0 := (rb3.cell (p := ⟨bf, of + q, none⟩) (by show bf < rw2.heap.size; omega)).trans r_2_0
       have r_3_1 := (rb3.cell (p := ⟨w1.heap.size, 0, none⟩) (by show w1.heap.size < rw2.heap.size; omega)).trans r_2_1
       have r_3_2 := (rb3.cell (p := ⟨w.heap.size + 1, 0, none⟩) (by show w.heap.size + 1 < rw2.heap.size; omega)).trans r_2_2
       have r_3_3 := (rb3.cell (p := ⟨W2.heap.size, 0, none⟩) (by show W2.heap.size < rw2.heap.size; omega)).trans r_2_3
       have r_3_4 := (rb3.cell (p := ⟨w1.heap.size, 1, none⟩) (by show w1.heap.size < rw2.heap.size; omega)).trans r_2_4
       have r_3_5 := (rb3.cell (p := ⟨w.heap.size + 1, 1, none⟩) (by show w.heap.size + 1 < rw2.heap.size; omega)).trans r_2_5
       have r_3_6 := (rb3.cell (p := ⟨W2.heap.size, 1, none⟩) (by show W2.heap.size < rw2.heap.size; omega)).trans r_2_6
       have rs3 : rw2.heap.size ≤ rw3.heap.size := rb3.size
       have rg3 : Good rw3 := rg2.below rb3)
    | (go_at_call 53; refine (HM1.out _ rg1).mono ?_; rintro e rw2 ⟨_, rfl, rfl, rb2⟩
       have r_2_0 := (rb2.cell (p := ⟨bf, of + q, none⟩) (by show bf < rw1.heap.size; omega)).trans r_1_0
       have r_2_1 := (rb2.cell (p := ⟨w1.heap.size, 0, none⟩) (by show w1.heap.size < rw1.heap.size; omega)).trans r_1_1
       have r_2_2 := (rb2.cell (p := ⟨w.heap.size + 1, 0, none⟩) (by show w.heap.size + 1 < rw1.heap.size; omega)).trans r_1_2
       have r_2_3 := (rb2.cell (p := ⟨W2.heap.size, 0, none⟩) (by show W2.heap.size < rw1.heap.size; omega)).trans r_1_3
       have r_2_4 := (rb2.cell (p := ⟨w1.heap.size, 1, none⟩) (by show w1.heap.size < rw1.heap.size; omega)).trans r_1_4
       have r_2_5 := (rb2.cell (p := ⟨w.heap.size + 1, 1, none⟩) (by show w.heap.size + 1 < rw1.heap.size; omega)).trans r_1_5
       have r_2_6 := (rb2.cell (p := ⟨W2.heap.size, 1, none⟩) (by show W2.heap.size < rw1.heap.size; omega)).trans r_1_6
       have rs2 : rw1.heap.size ≤ rw2.heap.size := rb2.size
       have rg2 : Good rw2 := rg1.below rb2)
    | (go_at_call 57; refine (HD1.out _ hgd).mono ?_; rintro e rw1 ⟨_, rfl, rfl, rb1⟩
       have r_1_0 := (rb1.cell (p := ⟨bf, of + q, none⟩) (by show bf < W3.heap.size; omega)).trans kf
       have r_1_1 := (rb1.cell (p := ⟨w1.heap.size, 0, none⟩) (by show w1.heap.size < W3.heap.size; omega)).trans u0
       have r_1_2 := (rb1.cell (p := ⟨w.heap.size + 1, 0, none⟩) (by show w.heap.size + 1 < W3.heap.size; omega)).trans v0
       have r_1_3 := (rb1.cell (p := ⟨W2.heap.size, 0, none⟩) (by show W2.heap.size < W3.heap.size; omega)).trans w0
       have r_1_4 := (rb1.cell (p := ⟨w1.heap.size, 1, none⟩) (by show w1.heap.size < W3.heap.size; omega)).trans u1
       have r_1_5 := (rb1.cell (p := ⟨w.heap.size + 1, 1, none⟩) (by show w.heap.size + 1 < W3.heap.size; omega)).trans v1
       have r_1_6 := (rb1.cell (p := ⟨W2.heap.size, 1, none⟩) (by show W2.heap.size < W3.heap.size; omega)).trans w1'
       have rs1 : W3.heap.size ≤ rw1.heap.size := rb1.size
       have rg1 : Good rw1 := hgd.below rb1))
  have rB : Below W3.heap.size W3 rw5 := ((((((below_drewN W3 1).trans (rb1.mono (by show W3.heap.size ≤ W3.heap.size; omega))).trans (rb2.mono (by show W3.heap.size ≤ rw1.heap.size; omega))).trans (rb3.mono (by show W3.heap.size ≤ rw2.heap.size; omega))).trans (rb4.mono (by show W3.heap.size ≤ rw3.heap.size; omega))).trans (rb5.mono (by show W3.heap.size ≤ rw4.heap.size; omega)))
  go_wp2_with fail
  go_ret
  exact ⟨_, rfl, rfl, hB3.trans (rB.mono hB3.size)⟩

theorem fnumber_ok (q : Rat) (h : Sz 200 q) (w : World) (hg : Good w) :
    Calls Tryz.prog 88 #[.string (RS q)] w (Ret (fun r _ => r = .tuple #[.string (RS q), .int .i64 0]) w) := by
  have hs := h.size (by omega)
  have HE : Hid (errNum (rightQ (RS q).data.toList) = 0) := by unfold Hid; rw [RS_list, rightQ_RL h]; rfl
  clear h
  go_enter Tryz.func88, Tryz.ntmps88
  go_wp2_with fail
  refine (checkQ_any (RS q) (by omega) _ hg).mono ?_
  rintro e w1 ⟨_, rfl, rfl, hb1⟩
  rw [HE.out]
  go_wp2_with fail
  go_ret2
  exact ⟨_, rfl, rfl, hb1⟩

set_option maxHeartbeats 1000000 in
set_option maxRecDepth 100000 in
/-- A place that is not right. -/
theorem locate_number (w : World) (vp vt : Value) (P : List PtQ) (T : List Tri) (k : Nat) (hp : RdP w vp (strP P)) (ht : RdT w vt T) (hm : MeshOK P T k) (px py : ByteArray) (hx : px.size < 1000000000) (hy : py.size < 1000000000) (he : errNum (allQ [px, py]) = 2) (hg : Good w) :
    Calls Tryz.prog 87 #[.agg #[vp, vt], .agg #[.string px, .string py]] w (Ret (fun r _ => r = .tuple #[.slice none 0 0, .int .i64 2]) w) := by
  have HER := Lib.hid he
  have HCK : Hid (∀ w', Below w.heap.size w w' → Good w' → Calls Tryz.prog 40 #[.agg #[vp, vt]] w' (Ret (fun r _ => r = .int .i64 0) w')) := fun w' hb hg' => check_any w' vp vt P T k (RdC.below hp hb) (RdC.below ht hb) hm hg'
  have hpp := hp
  have htt := ht
  obtain ⟨pp, cp, rfl, -, -, -⟩ := hpp.open
  obtain ⟨pt, ct, rfl, -, -, -⟩ := htt.open
  rw [strP_length] at *
  clear hp ht hm hpp htt he
  go_enter Tryz.func87, Tryz.ntmps87
  go_wp2_with fail
  obtain ⟨W, hW⟩ : ∃ W, W = (w.alloc (.cells #[.slice pp P.length cp, .slice pt T.length ct] 40)).alloc (.cells #[.string px, .string py] 54) := ⟨_, rfl⟩
  have hB : Below w.heap.size w W := by rw [hW]; exact ((Below.refl _ _).alloc (Nat.le_refl _) _).alloc (by simp) _
  have e3 : BoxN W (w.heap.size + 1) 54 [.string px, .string py] := by rw [hW]; exact BoxN.new _ _ _ _ (by simp)
  rw [← hW]
  clear hW
  refine (HCK.out W hB (hg.below hB)).mono ?_
  rintro e w1 ⟨_, rfl, rfl, hb1⟩
  have hB1 := hB.trans (hb1.mono hB.size)
  have e31 := e3.below hb1 e3.lt
  have y0 := e31.cell 0 rfl
  have y1 := e31.cell 1 rfl
  clear hb1 hB e3
  go_wp2_with fail
  refine (checkPoint_any px py (by omega) (by omega) w1 (hg.below hB1)).mono ?_
  rw [HER.out]
  rintro e w2 ⟨_, rfl, rfl, hb2⟩
  have hB2 := hB1.trans (hb2.mono hB1.size)
  clear y0 y1 e31
  go_wp2_with fail
  go_ret2
  exact ⟨_, rfl, rfl, hB2⟩

set_option maxHeartbeats 2000000 in
set_option maxRecDepth 100000 in
theorem value_number (w : World) (vp vt vf : Value) (P : List PtQ) (T : List Tri) (k : Nat) (F : List Rat) (h : FieldIn w vp vt vf P T k F) (px py : ByteArray) (hx : px.size < 1000000000) (hy : py.size < 1000000000) (he : errNum (allQ [px, py]) = 2) (hg : Good w) :
    Calls Tryz.prog 33 #[.agg #[vp, vt], vf, .agg #[.string px, .string py]] w (Ret (fun r _ => r = .tuple #[.string ⟨#[]⟩, .int .i64 2]) w) := by
  have HH := Lib.hid h
  have HLO : Hid (∀ w', Below w.heap.size w w' → Good w' → _) := fun w' hb hg' => locate_number w' vp vt P T k (h.below hb).p (h.below hb).t h.m px py hx hy he hg'
  obtain ⟨pp, cp, pt, ct, pf, cf, rfl, rfl, rfl⟩ := h.open
  clear h he
  go_enter Tryz.func33, Tryz.ntmps33
  go_wp2_with fail
  obtain ⟨W, hW⟩ : ∃ W, W = ((w.alloc (.cells #[.slice pp P.length cp, .slice pt T.length ct] 40)).alloc (.cells #[.string px, .string py] 54)).alloc (.cells #[.slice pf F.length cf] 42) := ⟨_, rfl⟩
  have hB : Below w.heap.size w W := by rw [hW]; exact (((Below.refl _ _).alloc (Nat.le_refl _) _).alloc (by simp) _).alloc (by simp; omega) _
  have bF : BoxN W (w.heap.size + 1 + 1) 42 [.slice pf F.length cf] := by rw [hW]; exact BoxN.new _ _ _ _ (by simp)
  have b5 : BoxN W (w.heap.size + 1) 54 [.string px, .string py] := by
    rw [hW]
    have h1 := (BoxN.new (w.alloc (.cells #[.slice pp P.length cp, .slice pt T.length ct] 40)) #[.string px, .string py] 54 (w.heap.size + 1) (by simp))
    exact h1.below ((Below.refl _ _).alloc (Nat.le_refl _) _) h1.lt
  have b3 : BoxN W w.heap.size 40 [.slice pp P.length cp, .slice pt T.length ct] := by
    rw [hW]
    have h1 := (BoxN.new w #[.slice pp P.length cp, .slice pt T.length ct] 40 _ rfl)
    exact h1.below (((Below.refl _ _).alloc (Nat.le_refl _) _).alloc (by simp) _) h1.lt
  rw [← hW]
  clear hW
  refine (checks_ok (HH.out.below hB) _ (bF.cell 0 rfl) (hg.below hB)).mono ?_
  rintro e w1 ⟨_, rfl, rfl, hb1⟩
  have hB1 := hB.trans (hb1.mono hB.size)
  have b51 := b5.below hb1 b5.lt
  have b31 := b3.below hb1 b3.lt
  have x0 := b31.cell 0 rfl
  have x1 := b31.cell 1 rfl
  have y0 := b51.cell 0 rfl
  have y1 := b51.cell 1 rfl
  clear hb1 hB b5 b3 bF
  go_wp2_with fail
  refine (HLO.out w1 hB1 (hg.below hB1)).mono ?_
  rintro e w2 ⟨_, rfl, rfl, hb2⟩
  have hB2 := hB1.trans (hb2.mono hB1.size)
  clear x0 x1 y0 y1
  go_wp2_with fail
  go_ret2
  exact ⟨_, rfl, rfl, hB2⟩

set_option maxHeartbeats 2000000 in
set_option maxRecDepth 100000 in
theorem value_out (w : World) (vp vt vf : Value) (P : List PtQ) (T : List Tri) (k : Nat) (F : List Rat) (h : FieldIn w vp vt vf P T k F) (p : PtQ) (hpz : SzP 200 p) (hl : locN P T p T.length = []) (hg : Good w) :
    Calls Tryz.prog 33 #[.agg #[vp, vt], vf, .agg #[.string (RS p.1), .string (RS p.2)]] w (Ret (fun r _ => r = .tuple #[.string ⟨#[]⟩, .int .i64 28]) w) := by
  have HH := Lib.hid h
  have HLO : Hid (∀ w', Below w.heap.size w w' → Good w' → _) := fun w' hb hg' => locate_ok w' vp vt P T k (h.below hb).p (h.below hb).t h.m p hpz hg'
  rw [hl] at HLO
  obtain ⟨pp, cp, pt, ct, pf, cf, rfl, rfl, rfl⟩ := h.open
  generalize RS p.1 = px at *
  generalize RS p.2 = py at *
  clear h hl
  go_enter Tryz.func33, Tryz.ntmps33
  go_wp2_with fail
  obtain ⟨W, hW⟩ : ∃ W, W = ((w.alloc (.cells #[.slice pp P.length cp, .slice pt T.length ct] 40)).alloc (.cells #[.string px, .string py] 54)).alloc (.cells #[.slice pf F.length cf] 42) := ⟨_, rfl⟩
  have hB : Below w.heap.size w W := by rw [hW]; exact (((Below.refl _ _).alloc (Nat.le_refl _) _).alloc (by simp) _).alloc (by simp; omega) _
  have bF : BoxN W (w.heap.size + 1 + 1) 42 [.slice pf F.length cf] := by rw [hW]; exact BoxN.new _ _ _ _ (by simp)
  have b5 : BoxN W (w.heap.size + 1) 54 [.string px, .string py] := by
    rw [hW]
    have h1 := (BoxN.new (w.alloc (.cells #[.slice pp P.length cp, .slice pt T.length ct] 40)) #[.string px, .string py] 54 (w.heap.size + 1) (by simp))
    exact h1.below ((Below.refl _ _).alloc (Nat.le_refl _) _) h1.lt
  have b3 : BoxN W w.heap.size 40 [.slice pp P.length cp, .slice pt T.length ct] := by
    rw [hW]
    have h1 := (BoxN.new w #[.slice pp P.length cp, .slice pt T.length ct] 40 _ rfl)
    exact h1.below (((Below.refl _ _).alloc (Nat.le_refl _) _).alloc (by simp) _) h1.lt
  rw [← hW]
  clear hW
  refine (checks_ok (HH.out.below hB) _ (bF.cell 0 rfl) (hg.below hB)).mono ?_
  rintro e w1 ⟨_, rfl, rfl, hb1⟩
  have hB1 := hB.trans (hb1.mono hB.size)
  have b51 := b5.below hb1 b5.lt
  have b31 := b3.below hb1 b3.lt
  have x0 := b31.cell 0 rfl
  have x1 := b31.cell 1 rfl
  have y0 := b51.cell 0 rfl
  have y1 := b51.cell 1 rfl
  clear hb1 hB b5 b3 bF
  go_wp2_with fail
  refine (HLO.out w1 hB1 (hg.below hB1)).mono ?_
  rintro e w2 ⟨_, rfl, ⟨vl, rfl, hrd⟩, hb2⟩
  have hB2 := hB1.trans (hb2.mono hB1.size)
  obtain ⟨pl, cl, rfl, -, -, -⟩ := hrd.open
  clear x0 x1 y0 y1 hrd
  go_wp2_with fail
  go_ret2
  exact ⟨_, rfl, rfl, hB2⟩

set_option maxHeartbeats 4000000 in
set_option maxRecDepth 100000 in
theorem value_in (w : World) (vp vt vf : Value) (P : List PtQ) (T : List Tri) (k : Nat) (F : List Rat) (h : FieldIn w vp vt vf P T k F) (p : PtQ) (hpz : SzP 200 p) (t : Nat) (l : List Int) (hl : locN P T p T.length = (t : Int) :: l) (htl : t < T.length) (hs : SzP 200 (slopeT P F T[t])) (hz : Sz 200 (onQ P F T[t] p)) (hg : Good w) :
    Calls Tryz.prog 33 #[.agg #[vp, vt], vf, .agg #[.string (RS p.1), .string (RS p.2)]] w (Ret (fun r _ => r = .tuple #[.string (RS (onQ P F T[t] p)), .int .i64 0]) w) := by
  have HH := Lib.hid h
  have HLO : Hid (∀ w', Below w.heap.size w w' → Good w' → _) := fun w' hb hg' => locate_ok w' vp vt P T k (h.below hb).p (h.below hb).t h.m p hpz hg'
  rw [hl] at HLO
  have HON : Hid (∀ w', Below w.heap.size w w' → Good w' → _) := fun w' hb hg' => on_any w' vp vt vf P T k F (h.below hb) t t rfl htl T[t] rfl p 200 (by omega) (by omega) hs hpz h.m.klim2 hg'
  have HNU : Hid (∀ w', Good w' → _) := fun w' hg' => fnumber_ok (onQ P F T[t] p) hz w' hg'
  obtain ⟨pp, cp, pt, ct, pf, cf, rfl, rfl, rfl⟩ := h.open
  generalize onQ P F T[t] p = res at *
  generalize RS res = ress at *
  generalize RS p.1 = px at *
  generalize RS p.2 = py at *
  clear h hl hs hz
  go_enter Tryz.func33, Tryz.ntmps33
  go_wp2_with fail
  obtain ⟨W, hW⟩ : ∃ W, W = ((w.alloc (.cells #[.slice pp P.length cp, .slice pt T.length ct] 40)).alloc (.cells #[.string px, .string py] 54)).alloc (.cells #[.slice pf F.length cf] 42) := ⟨_, rfl⟩
  have hB : Below w.heap.size w W := by rw [hW]; exact (((Below.refl _ _).alloc (Nat.le_refl _) _).alloc (by simp) _).alloc (by simp; omega) _
  have bF : BoxN W (w.heap.size + 1 + 1) 42 [.slice pf F.length cf] := by rw [hW]; exact BoxN.new _ _ _ _ (by simp)
  have b5 : BoxN W (w.heap.size + 1) 54 [.string px, .string py] := by
    rw [hW]
    have h1 := (BoxN.new (w.alloc (.cells #[.slice pp P.length cp, .slice pt T.length ct] 40)) #[.string px, .string py] 54 (w.heap.size + 1) (by simp))
    exact h1.below ((Below.refl _ _).alloc (Nat.le_refl _) _) h1.lt
  have b3 : BoxN W w.heap.size 40 [.slice pp P.length cp, .slice pt T.length ct] := by
    rw [hW]
    have h1 := (BoxN.new w #[.slice pp P.length cp, .slice pt T.length ct] 40 _ rfl)
    exact h1.below (((Below.refl _ _).alloc (Nat.le_refl _) _).alloc (by simp) _) h1.lt
  rw [← hW]
  clear hW
  refine (checks_ok (HH.out.below hB) _ (bF.cell 0 rfl) (hg.below hB)).mono ?_
  rintro e w1 ⟨_, rfl, rfl, hb1⟩
  have hB1 := hB.trans (hb1.mono hB.size)
  have b51 := b5.below hb1 b5.lt
  have b31 := b3.below hb1 b3.lt
  have x0 := b31.cell 0 rfl
  have x1 := b31.cell 1 rfl
  have y0 := b51.cell 0 rfl
  have y1 := b51.cell 1 rfl
  clear hb1 hB b5 b3 bF
  go_wp2_with fail
  refine (HLO.out w1 hB1 (hg.below hB1)).mono ?_
  rintro e w2 ⟨_, rfl, ⟨vl, rfl, hrd⟩, hb2⟩
  have hB2 := hB1.trans (hb2.mono hB1.size)
  have b52 := b51.below hb2 b51.lt
  have b32 := b31.below hb2 b31.lt
  obtain ⟨pl, cl, rfl, hlc, -, hlr⟩ := hrd.open
  obtain ⟨bl, ol, rfl, hbl, hlcell⟩ := hlr (by simp)
  have z0 := hlcell 0 (by simp)
  have hz5 := b52.lt
  have hz3 := b32.lt
  have hlen : 0 < ((t : Int) :: l).length := by simp
  have hlen2 : ¬ (((t : Int) :: l).length = 0) := by simp
  simp only [List.getElem_cons_zero, Nat.add_zero] at z0
  clear x0 x1 y0 y1 hrd hlr hlcell hb2 hB1 b51 b31
  have x0 := b32.cell 0 rfl
  have x1 := b32.cell 1 rfl
  have y0 := b52.cell 0 rfl
  have y1 := b52.cell 1 rfl
  generalize ((t : Int) :: l).length = nl at *
  have hgd : Good w2.drew := (hg.below hB2).drewN 1
  have hbd : Below w.heap.size w w2.drew := hB2.trans ((below_drewN w2 1).mono hB2.size)
  go_upto_region 9 with fail
  go_region_held3 (fun w' => w'.cell? ⟨w.heap.size, 0, none⟩ = some (.slice pp P.length cp) ∧ w'.cell? ⟨w.heap.size, 1, none⟩ = some (.slice pt T.length ct) ∧ w'.cell? ⟨bl, ol, none⟩ = some (.int .i64 t) ∧ w'.cell? ⟨w.heap.size + 1, 0, none⟩ = some (.string px) ∧ w'.cell? ⟨w.heap.size + 1, 1, none⟩ = some (.string py))
    (first | exact ⟨x0, x1, z0, y0, y1⟩ | exact ⟨r_1_0, r_1_1, r_1_2, r_1_3, r_1_4⟩ | exact ⟨r_2_0, r_2_1, r_2_2, r_2_3, r_2_4⟩)
    (first
    | (go_at_call 88; refine (HNU.out _ rg1).mono ?_; rintro e rw2 ⟨_, rfl, rfl, rb2⟩
       have r_2_0 := (rb2.cell (p := ⟨w.heap.size, 0, none⟩) (by show w.heap.size < rw1.heap.size; omega)).trans r_1_0
       have r_2_1 := (rb2.cell (p := ⟨w.heap.size, 1, none⟩) (by show w.heap.size < rw1.heap.size; omega)).trans r_1_1
       have r_2_2 := (rb2.cell (p := ⟨bl, ol, none⟩) (by show bl < rw1.heap.size; omega)).trans r_1_2
       have r_2_3 := (rb2.cell (p := ⟨w.heap.size + 1, 0, none⟩) (by show w.heap.size + 1 < rw1.heap.size; omega)).trans r_1_3
       have r_2_4 := (rb2.cell (p := ⟨w.heap.size + 1, 1, none⟩) (by show w.heap.size + 1 < rw1.heap.size; omega)).trans r_1_4
       have rs2 : rw1.heap.size ≤ rw2.heap.size := rb2.size
       have rg2 : Good rw2 := rg1.below rb2)
    | (go_at_call 89; refine (HON.out _ hbd hgd).mono ?_; rintro e rw1 ⟨_, rfl, rfl, rb1⟩
       have r_1_0 := (rb1.cell (p := ⟨w.heap.size, 0, none⟩) (by show w.heap.size < w2.heap.size; omega)).trans x0
       have r_1_1 := (rb1.cell (p := ⟨w.heap.size, 1, none⟩) (by show w.heap.size < w2.heap.size; omega)).trans x1
       have r_1_2 := (rb1.cell (p := ⟨bl, ol, none⟩) (by show bl < w2.heap.size; omega)).trans z0
       have r_1_3 := (rb1.cell (p := ⟨w.heap.size + 1, 0, none⟩) (by show w.heap.size + 1 < w2.heap.size; omega)).trans y0
       have r_1_4 := (rb1.cell (p := ⟨w.heap.size + 1, 1, none⟩) (by show w.heap.size + 1 < w2.heap.size; omega)).trans y1
       have rs1 : w2.heap.size ≤ rw1.heap.size := rb1.size
       have rg1 : Good rw1 := hgd.below rb1))
  have rB : Below w2.heap.size w2 rw2 := (((below_drewN w2 1).trans (rb1.mono (by show w2.heap.size ≤ w2.heap.size; omega))).trans (rb2.mono (by show w2.heap.size ≤ rw1.heap.size; omega)))
  go_wp2_with fail
  go_ret2
  exact ⟨_, rfl, rfl, hB2.trans (rB.mono hB2.size)⟩

end Go.Proofs.YtjfjkiibmfgplaaGreatDoor
