import Derived.Test.YtgdpoankaojklaaGreatDoorVW2
/- The walks over field.on, field.number, field.Value. Klippelaw12.Place, Make Right sheets Plain The walks over rational.Whole, klippelaw12.point, mesh.Grid. mesh.checkTriangle The walks over mesh.Boundary, mesh.right, mesh.Shares, mesh.within. The walks over field.toward, field.side. Parts of a triangle above a height Level lines The walk over field.cut. The walks over field.level, field.Level. -/
set_option maxHeartbeats 8000000
set_option maxRecDepth 100000
namespace Go.Proofs.YtgdpoankaojklaaGreatDoor
open Go.RowKit Go.Lib
def onQ (P : List PtQ) (F : List Rat) (tr : Tri) (p : PtQ) : Rat := hI F tr.1 + (slopeT P F tr).1 * (p.1 - (ptI P tr.1).1) + (slopeT P F tr).2 * (p.2 - (ptI P tr.1).2)
theorem on_any (w : World) (vp vt vf : Value) (P : List PtQ) (T : List Tri) (k : Nat) (F : List Rat) (h : FieldIn w vp vt vf P T k F) (t : Nat) (tz : Int) (htz : tz = (t : Int)) (htl : t < T.length) (tr : Tri) (htr : tr = T[t]) (p : PtQ) (m : Nat) (hm0 : 0 < m) (hm : m <= 1000) (hs : SzP m (slopeT P F tr)) (hp : SzP m p) (hkm : k <= m) (hg : Good w) :
 Calls Tryz.prog 82 #[.agg #[vp, vt], vf, .int .i64 tz, .agg #[.string (RS p.1), .string (RS p.2)]] w (Ret (fun r _ => r = .string (RS (onQ P F tr p))) w) := by
 have hmem : tr ∈ T := by rw [htr]; exact List.getElem_mem htl
 obtain ⟨g0, g1⟩ := h.m.idx tr hmem tr.1 (by simp [idxOf]);obtain ⟨q, hq⟩ : ∃ q : Nat, tr.1 = (q : Int) := ⟨tr.1.toNat, by omega⟩;have hfl := h.fl;have hqF : q < F.length := by omega
 have hqP : q < P.length := by omega
 have HH := hid h;have HSL : Hid (∀ (w : World), FieldIn w vp vt vf P T k F -> Good w -> Calls Tryz.prog 129 #[.agg #[vp, vt], vf, .int .i64 tz] w (Ret (fun r _ => r = .agg #[.string (RS (slopeT P F tr).1), .string (RS (slopeT P F tr).2)]) w)) := fun w h hg =>
  slope_any w _ _ _ P T k F h.p h.t h.m.toMeshIn h.m.klim2 h.f h.fs h.fl t tz htz htl tr htr (h.m.turns tr hmem) hg
 obtain ⟨bt, ot, ct, rfl, hbt, e0, _, _⟩ := h.tri t htl;obtain ⟨bf, of, cf, rfl, hbf, ef⟩ := h.hgt q hqF;have hpp := h.p;obtain ⟨pp, cp, rfl, _, _, hpr⟩ := hpp.open;obtain ⟨bp, op, rfl, hbp, hpc⟩ := hpr (by intro e; have h := strP_length P; rw [e] at h; simp at h; omega);obtain ⟨ex, ey⟩ := hpc q (by rw [strP_length]; exact hqP);rw [strP_get P q hqP] at ex ey;dsimp only at ex ey;rw [<- htr, hq] at e0;have zo := h.m.sz _ (List.getElem_mem hqP);have zf := h.fs _ (List.getElem_mem hqF);unfold onQ;rw [hq, hI_nat F q hqF, ptI_nat P q hqP];rw [hI_nat F q hqF] at ef;rw [strP_length] at *;generalize slopeT P F tr = S at *;generalize P[q] = o at *;generalize F[q] = f at *;have d1 : Sz (2 * m + 1) (p.1 - o.1) := (hp.1.sub (zo.1.mono hkm)).mono (by omega);have d2 : Sz (2 * m + 1) (p.2 - o.2) := (hp.2.sub (zo.2.mono hkm)).mono (by omega);have m1 : Sz (3 * m + 1) (S.1 * (p.1 - o.1)) := (hs.1.mul d1).mono (by omega);have m2 : Sz (3 * m + 1) (S.2 * (p.2 - o.2)) := (hs.2.mul d2).mono (by omega);have HD1 := hid fun w hg => ratSub_any p.1 o.1 m hm0 (by omega) hp.1 (zo.1.mono hkm) w hg
 have HD2 := hid fun w hg => ratSub_any p.2 o.2 m hm0 (by omega) hp.2 (zo.2.mono hkm) w hg
 have HM1 := hid fun w hg => ratMul_any S.1 (p.1 - o.1) (2 * m + 1) (by omega) (by omega) (hs.1.mono (by omega)) d1 w hg
 have HM2 := hid fun w hg => ratMul_any S.2 (p.2 - o.2) (2 * m + 1) (by omega) (by omega) (hs.2.mono (by omega)) d2 w hg
 have HSUM : Hid (∀ (v : Value) (w : World), RdQ w v [f, S.1 * (p.1 - o.1), S.2 * (p.2 - o.2)] -> Good w -> _) := fun v w hr hg => ratSum_any [f, S.1 * (p.1 - o.1), S.2 * (p.2 - o.2)] (3 * m + 1) (by omega) (by simp; omega) (by
  intro q hq;simp only [List.mem_cons, List.not_mem_nil, or_false] at hq;rcases hq with rfl | rfl | rfl
  ·exact zf.mono (by omega)
  ·exact m1
  ·exact m2) v w hr hg
 have hfold : [f, S.1 * (p.1 - o.1), S.2 * (p.2 - o.2)].foldl (·+ ·) 0 = f + S.1 * (p.1 - o.1) + S.2 * (p.2 - o.2) := by
  simp only [List.foldl_cons, List.foldl_nil];grind
 rw [hfold] at HSUM;generalize f + S.1 * (p.1 - o.1) + S.2 * (p.2 - o.2) = res at *;generalize S.1 * (p.1 - o.1) = x1 at *;generalize S.2 * (p.2 - o.2) = x2 at *;generalize p.1 - o.1 = y1 at *;generalize p.2 - o.2 = y2 at *;have ht2 : (t : Int) < (T.length : Int) := by omega
 have hq1 : (q : Int) < (P.length : Int) := by omega
 have hq2 : (q : Int) < (F.length : Int) := by omega
 have i0 := idx_T0;subst htz;clear h htr hmem hpp hpr hpc hs hp zo zf d1 d2 m1 m2 hfold g0 g1 hq hqF hqP hfl;go_enter Tryz.func82, Tryz.ntmps82;go_wp2_with fail;obtain ⟨W, hW⟩ : ∃ W, W = (w.alloc (.cells #[.slice (some ⟨bp, op, none⟩) P.length cp, .slice (some ⟨bt, ot, none⟩) T.length ct] 37)).alloc (.cells #[.string (RS p.1), .string (RS p.2)] 63) := ⟨_, rfl⟩;have hB : Below w.heap.size w W := by rw [hW]; exact zal2 _ _ _
 have b7 : BoxN W (w.heap.size + 1) 63 [.string (RS p.1), .string (RS p.2)] := by rw [hW]; exact BoxN.new _ _ _ _ (by simp)
 have b4 : BoxN W w.heap.size 37 [.slice (some ⟨bp, op, none⟩) P.length cp, .slice (some ⟨bt, ot, none⟩) T.length ct] := by
  rw [hW];have h1 := (BoxN.new w #[.slice (some ⟨bp, op, none⟩) P.length cp, .slice (some ⟨bt, ot, none⟩) T.length ct] 37 _ rfl);exact h1.below (zal _ _) h1.lt
 rw [<- hW];clear hW;refine (HSL.out W (HH.out.below hB) (hg.below hB)).mono ?_;rintro e w1 ⟨_, rfl, rfl, hb1⟩;have hB1 := hB.trans (hb1.mono hB.size);have b71 := b7.below hb1 b7.lt;have b41 := b4.below hb1 b4.lt;clear hb1 hB b7 b4;go_upto_region 2 with fail;obtain ⟨W2, hW2⟩ : ∃ W, W = w1.alloc (.cells #[.string (RS S.1), .string (RS S.2)] 63) := ⟨_, rfl⟩;have hb2 : Below w1.heap.size w1 W2 := by rw [hW2]; exact zal _ _
 have b9 : BoxN W2 w1.heap.size 63 [.string (RS S.1), .string (RS S.2)] := by rw [hW2]; exact BoxN.new _ _ _ _ rfl
 rw [<- hW2];clear hW2;have hB2 := hB1.trans (hb2.mono hB1.size);have b72 := b71.below hb2 b71.lt;have b42 := b41.below hb2 b41.lt;clear hb2 hB1 b71 b41;have x0 := b42.cell 0 rfl;have x1' := b42.cell 1 rfl;have k0 := zcq hB2 hbt e0;have k1 := zcq hB2 hbp ex;have k2 := zcq hB2 hbp ey;go_upto_region 4 with fail;obtain ⟨W3, hW3⟩ : ∃ W, W = W2.alloc (.cells #[.string (RS o.1), .string (RS o.2)] 63) := ⟨_, rfl⟩;have hb3 : Below W2.heap.size W2 W3 := by rw [hW3]; exact zal _ _
 have b11 : BoxN W3 W2.heap.size 63 [.string (RS o.1), .string (RS o.2)] := by rw [hW3]; exact BoxN.new _ _ _ _ rfl
 rw [<- hW3];clear hW3;have hB3 := hB2.trans (hb3.mono hB2.size);have b73 := b72.below hb3 b72.lt;have b93 := b9.below hb3 b9.lt;clear hb3 hB2 b72 b9 b42 x0 x1' k0 k1 k2 e0 ex ey;have kf := zcq hB3 hbf ef;have u0 := b93.cell 0 rfl;have u1 := b93.cell 1 rfl;have v0 := b73.cell 0 rfl;have v1 := b73.cell 1 rfl;have w0 := b11.cell 0 rfl;have w1' := b11.cell 1 rfl;have hz1 := b93.lt;have hz2 := b73.lt;have hz3 := b11.lt;have hz4 := hB3.size;have hgd : Good W3.drew := (hg.below hB3).drewN 1;clear ef;go_region_held3 (fun w' => w'.cell? ⟨bf, of + q, none⟩ = some (.string (RS f)) /\ w'.cell? ⟨w1.heap.size, 0, none⟩ = some (.string (RS S.1)) /\ w'.cell? ⟨w.heap.size + 1, 0, none⟩ = some (.string (RS p.1)) /\ w'.cell? ⟨W2.heap.size, 0, none⟩ = some (.string (RS o.1)) /\ w'.cell? ⟨w1.heap.size, 1, none⟩ = some (.string (RS S.2)) /\ w'.cell? ⟨w.heap.size + 1, 1, none⟩ = some (.string (RS p.2)) /\ w'.cell? ⟨W2.heap.size, 1, none⟩ = some (.string (RS o.2)))
  (first | with_reducible exact ⟨kf, u0, v0, w0, u1, v1, w1'⟩ | with_reducible exact ⟨r_1_0, r_1_1, r_1_2, r_1_3, r_1_4, r_1_5, r_1_6⟩ | with_reducible exact ⟨r_2_0, r_2_1, r_2_2, r_2_3, r_2_4, r_2_5, r_2_6⟩ | with_reducible exact ⟨r_3_0, r_3_1, r_3_2, r_3_3, r_3_4, r_3_5, r_3_6⟩ | with_reducible exact ⟨r_4_0, r_4_1, r_4_2, r_4_3, r_4_4, r_4_5, r_4_6⟩ | with_reducible exact ⟨(cell_alloc_l _ r_4_0), (cell_alloc_l _ r_4_1), (cell_alloc_l _ r_4_2), (cell_alloc_l _ r_4_3), (cell_alloc_l _ r_4_4), (cell_alloc_l _ r_4_5), (cell_alloc_l _ r_4_6)⟩ | with_reducible exact ⟨r_5_0, r_5_1, r_5_2, r_5_3, r_5_4, r_5_5, r_5_6⟩ | exact ⟨kf, u0, v0, w0, u1, v1, w1'⟩ | exact ⟨r_1_0, r_1_1, r_1_2, r_1_3, r_1_4, r_1_5, r_1_6⟩ | exact ⟨r_2_0, r_2_1, r_2_2, r_2_3, r_2_4, r_2_5, r_2_6⟩ | exact ⟨r_3_0, r_3_1, r_3_2, r_3_3, r_3_4, r_3_5, r_3_6⟩ | exact ⟨r_4_0, r_4_1, r_4_2, r_4_3, r_4_4, r_4_5, r_4_6⟩ | exact ⟨(cell_alloc_l _ r_4_0), (cell_alloc_l _ r_4_1), (cell_alloc_l _ r_4_2), (cell_alloc_l _ r_4_3), (cell_alloc_l _ r_4_4), (cell_alloc_l _ r_4_5), (cell_alloc_l _ r_4_6)⟩ | exact ⟨r_5_0, r_5_1, r_5_2, r_5_3, r_5_4, r_5_5, r_5_6⟩)
  (first
  | (go_at_call 43; refine (HSUM.out _ _ (RdQ.fresh rw4 [f, x1, x2] _ _ rfl (by simp) 3 rfl _ rfl) (rg4.alloc _)).mono ?_; rintro e rw5 ⟨_, rfl, rfl, rb5_⟩
     have rb5 : Below rw4.heap.size rw4 rw5 := ((Below.refl _ _).alloc (Nat.le_refl _) _).trans (rb5_.mono (by simp));have r_5_0 := zct rb5 r_4_0;have r_5_1 := zct rb5 r_4_1;have r_5_2 := zct rb5 r_4_2;have r_5_3 := zct rb5 r_4_3;have r_5_4 := zct rb5 r_4_4;have r_5_5 := zct rb5 r_4_5;have r_5_6 := zct rb5 r_4_6;have rs5 := rb5.size;have rg5 := rg4.below rb5)
  | (go_at_call 42; refine (HM2.out _ rg3).mono ?_; rintro e rw4 ⟨_, rfl, rfl, rb4⟩
     have r_4_0 := zct rb4 r_3_0;have r_4_1 := zct rb4 r_3_1;have r_4_2 := zct rb4 r_3_2;have r_4_3 := zct rb4 r_3_3;have r_4_4 := zct rb4 r_3_4;have r_4_5 := zct rb4 r_3_5;have r_4_6 := zct rb4 r_3_6;have rs4 := rb4.size;have rg4 := rg3.below rb4)
  | (go_at_call 32; refine (HD2.out _ rg2).mono ?_; rintro e rw3 ⟨_, rfl, rfl, rb3⟩
     have r_3_0 := zct rb3 r_2_0;have r_3_1 := zct rb3 r_2_1;have r_3_2 := zct rb3 r_2_2;have r_3_3 := zct rb3 r_2_3;have r_3_4 := zct rb3 r_2_4;have r_3_5 := zct rb3 r_2_5;have r_3_6 := zct rb3 r_2_6;have rs3 := rb3.size;have rg3 := rg2.below rb3)
  | (go_at_call 42; refine (HM1.out _ rg1).mono ?_; rintro e rw2 ⟨_, rfl, rfl, rb2⟩
     have r_2_0 := zct rb2 r_1_0;have r_2_1 := zct rb2 r_1_1;have r_2_2 := zct rb2 r_1_2;have r_2_3 := zct rb2 r_1_3;have r_2_4 := zct rb2 r_1_4;have r_2_5 := zct rb2 r_1_5;have r_2_6 := zct rb2 r_1_6;have rs2 := rb2.size;have rg2 := rg1.below rb2)
  | (go_at_call 32; refine (HD1.out _ hgd).mono ?_; rintro e rw1 ⟨_, rfl, rfl, rb1⟩
     have r_1_0 := zct rb1 kf;have r_1_1 := zct rb1 u0;have r_1_2 := zct rb1 v0;have r_1_3 := zct rb1 w0;have r_1_4 := zct rb1 u1;have r_1_5 := zct rb1 v1;have r_1_6 := zct rb1 w1';have rs1 : W3.heap.size <= rw1.heap.size := rb1.size;have rg1 := hgd.below rb1))
 have rB : Below W3.heap.size W3 rw5 := zbt (zbt (zbt (zbt (zbt (below_drewN W3 1) rb1) rb2) rb3) rb4) rb5;go_wp2_with fail;go_ret;exact ⟨_, rfl, rfl, hB3.trans (rB.mono hB3.size)⟩
theorem fnumber_ok (q : Rat) (h : Sz 200 q) (w : World) (hg : Good w) :
 Calls Tryz.prog 81 #[.string (RS q)] w (Ret (fun r _ => r = .tuple #[.string (RS q), .int .i64 0]) w) := by
 have hs := h.size (by omega);have HE : Hid (errNum (rightQ (RS q).data.toList) = 0) := by unfold Hid; rw [RS_list, rightQ_RL h]; rfl
 clear h;go_enter Tryz.func81, Tryz.ntmps81;go_wp2_with fail;refine (checkQ_any (RS q) (by omega) _ hg).mono ?_;rintro e w1 ⟨_, rfl, rfl, hb1⟩;rw [HE.out];go_wp2_with fail;go_ret2;exact ⟨_, rfl, rfl, hb1⟩
theorem value_in (w : World) (vp vt vf : Value) (P : List PtQ) (T : List Tri) (k : Nat) (F : List Rat) (h : FieldIn w vp vt vf P T k F) (p : PtQ) (hpz : SzP 200 p) (t : Nat) (l : List Int) (hl : locN P T p T.length = (t : Int) :: l) (htl : t < T.length) (hs : SzP 200 (slopeT P F T[t])) (hz : Sz 200 (onQ P F T[t] p)) (hg : Good w) :
 Calls Tryz.prog 30 #[.agg #[vp, vt], vf, .agg #[.string (RS p.1), .string (RS p.2)]] w (Ret (fun r _ => r = .tuple #[.string (RS (onQ P F T[t] p)), .int .i64 0]) w) := by
 have HH := hid h;have HLO : Hid (∀ w', Below w.heap.size w w' -> Good w' -> _) := fun w' hb hg' => locate_ok w' vp vt P T k (h.below hb).p (h.below hb).t h.m p hpz hg';rw [hl] at HLO;have HON : Hid (∀ w', Below w.heap.size w w' -> Good w' -> _) := fun w' hb hg' => on_any w' vp vt vf P T k F (h.below hb) t t rfl htl T[t] rfl p 200 (by omega) (by omega) hs hpz h.m.klim2 hg'
 have HNU : Hid (∀ w', Good w' -> _) := fun w' hg' => fnumber_ok (onQ P F T[t] p) hz w' hg';obtain ⟨pp, cp, pt, ct, pf, cf, rfl, rfl, rfl⟩ := h.open;generalize onQ P F T[t] p = res at *;generalize RS res = ress at *;generalize RS p.1 = px at *;generalize RS p.2 = py at *;clear h hl hs hz;go_enter Tryz.func30, Tryz.ntmps30;go_wp2_with fail;obtain ⟨W, hW⟩ : ∃ W, W = ((w.alloc (.cells #[.slice pp P.length cp, .slice pt T.length ct] 37)).alloc (.cells #[.string px, .string py] 63)).alloc (.cells #[.slice pf F.length cf] 39) := ⟨_, rfl⟩;have hB : Below w.heap.size w W := by rw [hW]; exact (((Below.refl _ _).alloc (Nat.le_refl _) _).alloc (by simp) _).alloc (by simp; omega) _
 have bF : BoxN W (w.heap.size + 1 + 1) 39 [.slice pf F.length cf] := by rw [hW]; exact BoxN.new _ _ _ _ (by simp)
 have b5 : BoxN W (w.heap.size + 1) 63 [.string px, .string py] := by
  rw [hW];have h1 := (BoxN.new (w.alloc (.cells #[.slice pp P.length cp, .slice pt T.length ct] 37)) #[.string px, .string py] 63 (w.heap.size + 1) (by simp));exact h1.below (zal _ _) h1.lt
 have b3 : BoxN W w.heap.size 37 [.slice pp P.length cp, .slice pt T.length ct] := by
  rw [hW];have h1 := (BoxN.new w #[.slice pp P.length cp, .slice pt T.length ct] 37 _ rfl);exact h1.below (((Below.refl _ _).alloc (Nat.le_refl _) _).alloc (by simp) _) h1.lt
 rw [<- hW];clear hW;refine (checks_ok (HH.out.below hB) _ (bF.cell 0 rfl) (hg.below hB)).mono ?_;rintro e w1 ⟨_, rfl, rfl, hb1⟩;have hB1 := hB.trans (hb1.mono hB.size);have b51 := b5.below hb1 b5.lt;have b31 := b3.below hb1 b3.lt;have x0 := b31.cell 0 rfl;have x1 := b31.cell 1 rfl;have y0 := b51.cell 0 rfl;have y1 := b51.cell 1 rfl;clear hb1 hB b5 b3 bF;go_wp2_with fail;refine (HLO.out w1 hB1 (hg.below hB1)).mono ?_;rintro e w2 ⟨_, rfl, ⟨vl, rfl, hrd⟩, hb2⟩;have hB2 := hB1.trans (hb2.mono hB1.size);have b52 := b51.below hb2 b51.lt;have b32 := b31.below hb2 b31.lt;obtain ⟨pl, cl, rfl, hlc, -, hlr⟩ := hrd.open;obtain ⟨bl, ol, rfl, hbl, hlcell⟩ := hlr (by simp);have z0 := hlcell 0 (by simp);have hz5 := b52.lt;have hz3 := b32.lt;have hlen : 0 < ((t : Int) :: l).length := by simp
 have hlen2 : ¬ (((t : Int) :: l).length = 0) := by simp
 simp only [List.getElem_cons_zero, Nat.add_zero] at z0;clear x0 x1 y0 y1 hrd hlr hlcell hb2 hB1 b51 b31;have x0 := b32.cell 0 rfl;have x1 := b32.cell 1 rfl;have y0 := b52.cell 0 rfl;have y1 := b52.cell 1 rfl;generalize ((t : Int) :: l).length = nl at *;have hgd : Good w2.drew := (hg.below hB2).drewN 1;have hbd : Below w.heap.size w w2.drew := hB2.trans ((below_drewN w2 1).mono hB2.size);go_upto_region 9 with fail;go_region_held3 (fun w' => w'.cell? ⟨w.heap.size, 0, none⟩ = some (.slice pp P.length cp) /\ w'.cell? ⟨w.heap.size, 1, none⟩ = some (.slice pt T.length ct) /\ w'.cell? ⟨bl, ol, none⟩ = some (.int .i64 t) /\ w'.cell? ⟨w.heap.size + 1, 0, none⟩ = some (.string px) /\ w'.cell? ⟨w.heap.size + 1, 1, none⟩ = some (.string py))
  (first | exact ⟨x0, x1, z0, y0, y1⟩ | exact ⟨r_1_0, r_1_1, r_1_2, r_1_3, r_1_4⟩ | exact ⟨r_2_0, r_2_1, r_2_2, r_2_3, r_2_4⟩)
  (first
  | (go_at_call 81; refine (HNU.out _ rg1).mono ?_; rintro e rw2 ⟨_, rfl, rfl, rb2⟩
     have r_2_0 := zct rb2 r_1_0;have r_2_1 := zct rb2 r_1_1;have r_2_2 := zct rb2 r_1_2;have r_2_3 := zct rb2 r_1_3;have r_2_4 := zct rb2 r_1_4;have rs2 := rb2.size;have rg2 := rg1.below rb2)
  | (go_at_call 82; refine (HON.out _ hbd hgd).mono ?_; rintro e rw1 ⟨_, rfl, rfl, rb1⟩
     have r_1_0 := zct rb1 x0;have r_1_1 := zct rb1 x1;have r_1_2 := zct rb1 z0;have r_1_3 := zct rb1 y0;have r_1_4 := zct rb1 y1;have rs1 : w2.heap.size <= rw1.heap.size := rb1.size;have rg1 := hgd.below rb1))
 have rB : Below w2.heap.size w2 rw2 := zbt (zbt (below_drewN w2 1) rb1) rb2;go_wp2_with fail;go_ret2;exact ⟨_, rfl, rfl, hB2.trans (rB.mono hB2.size)⟩
def halfD (half : Bool) : Nat := if half then 2 else 1
def placeQ (s : Int) (half : Bool) (x : Int) : Rat := mkRat (x + s.tmod 8) (halfD half)
theorem tmod8_bound (s : Int) : -7 <= s.tmod 8 /\ s.tmod 8 <= 7 := by
 rcases Int.le_total 0 s with h | h
 ·rw [Int.tmod_eq_emod_of_nonneg h]; omega
 ·have h1 : s.tmod 8 = -((-s).tmod 8) := by rw [Int.neg_tmod]; omega
  rw [h1, Int.tmod_eq_emod_of_nonneg (by omega)];omega
theorem place_any (w : World) (kz s0 s1 : Int) (half : Bool) (x y : Int) (_hs0 : -128 <= s0 /\ s0 <= 127) (_hs1 : -128 <= s1 /\ s1 <= 127) (hx : -100 <= x /\ x <= 100) (hy : -100 <= y /\ y <= 100) (hg : Good w) :
 Calls Tryz.prog 25 #[.agg #[.int .u8 kz, .int .i8 s0, .int .i8 s1, .bool half], .agg #[.int .i8 x, .int .i8 y], .int .i64 1] w (Ret (fun r _ => r = .agg #[.string (RS (placeQ s0 half x)), .string (RS (placeQ s1 half y))]) w) := by
 have hb0 := tmod8_bound s0;have hb1 := tmod8_bound s1;have HO0 := hid fun w hg => ratOf_any (x + s0.tmod 8) (halfD half : Int) (x + s0.tmod 8) (halfD half) (halfD half : Int) rfl (by cases half <;> decide) (by omega) (by cases half <;> decide) (.inl ⟨rfl, rfl⟩) w hg
 have HO1 := hid fun w hg => ratOf_any (y + s1.tmod 8) (halfD half : Int) (y + s1.tmod 8) (halfD half) (halfD half : Int) rfl (by cases half <;> decide) (by omega) (by cases half <;> decide) (.inl ⟨rfl, rfl⟩) w hg
 unfold placeQ;obtain ⟨p0, hp0⟩ : ∃ p, p = mkRat (x + s0.tmod 8) (halfD half) := ⟨_, rfl⟩;obtain ⟨p1, hp1⟩ : ∃ p, p = mkRat (y + s1.tmod 8) (halfD half) := ⟨_, rfl⟩;rw [<- hp0] at HO0 ⊢;rw [<- hp1] at HO1 ⊢;obtain ⟨m0, hm0⟩ : ∃ m, m = s0.tmod 8 := ⟨_, rfl⟩;obtain ⟨m1, hm1⟩ : ∃ m, m = s1.tmod 8 := ⟨_, rfl⟩;rw [<- hm0] at HO0 hb0;rw [<- hm1] at HO1 hb1;have hw0 : IntKind.i8.wrap m0 = m0 := by unfold IntKind.wrap; simp [IntKind.signed, IntKind.bits]; omega
 have hw1 : IntKind.i8.wrap m1 = m1 := by unfold IntKind.wrap; simp [IntKind.signed, IntKind.bits]; omega
 have ha0 : IntKind.i64.wrap m0 = m0 := IntWalk.i64_in _ (by omega);have ha1 : IntKind.i64.wrap m1 = m1 := IntWalk.i64_in _ (by omega);have hx1 : IntKind.i64.wrap x = x := IntWalk.i64_in _ (by omega);have hy1 : IntKind.i64.wrap y = y := IntWalk.i64_in _ (by omega);have hxm : IntKind.i64.wrap (x + m0) = x + m0 := IntWalk.i64_in _ (by omega);have hym : IntKind.i64.wrap (y + m1) = y + m1 := IntWalk.i64_in _ (by omega);have hs0' := hm0.symm;have hs1' := hm1.symm;clear hp0 hp1 hm0 hm1;cases half
 ·dsimp only [halfD] at HO0 HO1
  go_enter Tryz.func25, Tryz.ntmps25;go_wp2_with fail;obtain ⟨W, hW⟩ : ∃ W, W = ((w.alloc (.cells #[.int .u8 kz, .int .i8 s0, .int .i8 s1, .bool false] 25)).alloc (.cells #[.int .i8 x, .int .i8 y] 23)).alloc (.cells #[.string ⟨#[]⟩, .string ⟨#[]⟩] 63) := ⟨_, rfl⟩;have hB : Below w.heap.size w W := by rw [hW]; exact (((Below.refl _ _).alloc (Nat.le_refl _) _).alloc (by simp) _).alloc (by simp; omega) _
  have b3 : BoxN W w.heap.size 25 [.int .u8 kz, .int .i8 s0, .int .i8 s1, .bool false] := by
   rw [hW];have h1 := (BoxN.new w #[.int .u8 kz, .int .i8 s0, .int .i8 s1, .bool false] 25 _ rfl);exact (h1.below ((Below.refl _ _).alloc (Nat.le_refl _) _) h1.lt).below ((Below.refl _ _).alloc (Nat.le_refl _) _) (by simp; omega)
  have b4 : BoxN W (w.heap.size + 1) 23 [.int .i8 x, .int .i8 y] := by
   rw [hW];have h1 := (BoxN.new (w.alloc (.cells #[.int .u8 kz, .int .i8 s0, .int .i8 s1, .bool false] 25)) #[.int .i8 x, .int .i8 y] 23 (w.heap.size + 1) (by simp));exact h1.below (zal _ _) h1.lt
  have b6 : BoxN W (w.heap.size + 2) 63 [.string ⟨#[]⟩, .string ⟨#[]⟩] := by rw [hW]; exact BoxN.new _ _ _ _ (by simp)
  rw [<- hW];clear hW;refine (HO0.out W (hg.below hB)).mono ?_;rintro e w1 ⟨_, rfl, rfl, hb1'⟩;have hB1 := hB.trans (hb1'.mono hB.size);have b31 := b3.below hb1' b3.lt;have b41 := b4.below hb1' b4.lt;have b61 := b6.below hb1' b6.lt;have c0 := b41.cell 1 rfl;have c1 := b31.cell 2 rfl;clear b3 b4 b6 hb1' hB;go_wp2_with fail;refine (HO1.out w1 (hg.below hB1)).mono ?_;rintro e w2 ⟨_, rfl, rfl, hb2'⟩;have hB2 := hB1.trans (hb2'.mono hB1.size);have b62 := b61.below hb2' b61.lt;have d0 := b62.cell 0 rfl;have d1 := b62.cell 1 rfl;have d2 := b62.frozen 0;have d3 := b62.frozen 1;clear c0 c1 b31 b41 b61 hb2' hB1;go_wp2_with fail;have BF := (b62.set 0 (.string (RS p0))).set 1 (.string (RS p1));have hBF := (hB2.setCell (p := ⟨w.heap.size + 2, 0, none⟩) (by show w.heap.size <= w.heap.size + 2; omega) (.string (RS p0))).setCell (p := ⟨w.heap.size + 2, 1, none⟩) (by show w.heap.size <= w.heap.size + 2; omega) (.string (RS p1));have g0 := BF.cell 0 rfl;have g1 := BF.cell 1 rfl;exact bodyPost_ret (v := .agg #[.string (RS p0), .string (RS p1)]) (by simp [results, Tryz.results25, go_sem, g0, g1]) rfl ⟨_, rfl, rfl, hBF⟩
 ·dsimp only [halfD] at HO0 HO1
  go_enter Tryz.func25, Tryz.ntmps25;go_wp2_with fail;obtain ⟨W, hW⟩ : ∃ W, W = ((w.alloc (.cells #[.int .u8 kz, .int .i8 s0, .int .i8 s1, .bool true] 25)).alloc (.cells #[.int .i8 x, .int .i8 y] 23)).alloc (.cells #[.string ⟨#[]⟩, .string ⟨#[]⟩] 63) := ⟨_, rfl⟩;have hB : Below w.heap.size w W := by rw [hW]; exact (((Below.refl _ _).alloc (Nat.le_refl _) _).alloc (by simp) _).alloc (by simp; omega) _
  have b3 : BoxN W w.heap.size 25 [.int .u8 kz, .int .i8 s0, .int .i8 s1, .bool true] := by
   rw [hW];have h1 := (BoxN.new w #[.int .u8 kz, .int .i8 s0, .int .i8 s1, .bool true] 25 _ rfl);exact (h1.below ((Below.refl _ _).alloc (Nat.le_refl _) _) h1.lt).below ((Below.refl _ _).alloc (Nat.le_refl _) _) (by simp; omega)
  have b4 : BoxN W (w.heap.size + 1) 23 [.int .i8 x, .int .i8 y] := by
   rw [hW];have h1 := (BoxN.new (w.alloc (.cells #[.int .u8 kz, .int .i8 s0, .int .i8 s1, .bool true] 25)) #[.int .i8 x, .int .i8 y] 23 (w.heap.size + 1) (by simp));exact h1.below (zal _ _) h1.lt
  have b6 : BoxN W (w.heap.size + 2) 63 [.string ⟨#[]⟩, .string ⟨#[]⟩] := by rw [hW]; exact BoxN.new _ _ _ _ (by simp)
  rw [<- hW];clear hW;refine (HO0.out W (hg.below hB)).mono ?_;rintro e w1 ⟨_, rfl, rfl, hb1'⟩;have hB1 := hB.trans (hb1'.mono hB.size);have b31 := b3.below hb1' b3.lt;have b41 := b4.below hb1' b4.lt;have b61 := b6.below hb1' b6.lt;have c0 := b41.cell 1 rfl;have c1 := b31.cell 2 rfl;clear b3 b4 b6 hb1' hB;go_wp2_with fail;refine (HO1.out w1 (hg.below hB1)).mono ?_;rintro e w2 ⟨_, rfl, rfl, hb2'⟩;have hB2 := hB1.trans (hb2'.mono hB1.size);have b62 := b61.below hb2' b61.lt;have d0 := b62.cell 0 rfl;have d1 := b62.cell 1 rfl;have d2 := b62.frozen 0;have d3 := b62.frozen 1;clear c0 c1 b31 b41 b61 hb2' hB1;go_wp2_with fail;have BF := (b62.set 0 (.string (RS p0))).set 1 (.string (RS p1));have hBF := (hB2.setCell (p := ⟨w.heap.size + 2, 0, none⟩) (by show w.heap.size <= w.heap.size + 2; omega) (.string (RS p0))).setCell (p := ⟨w.heap.size + 2, 1, none⟩) (by show w.heap.size <= w.heap.size + 2; omega) (.string (RS p1));have g0 := BF.cell 0 rfl;have g1 := BF.cell 1 rfl;exact bodyPost_ret (v := .agg #[.string (RS p0), .string (RS p1)]) (by simp [results, Tryz.results25, go_sem, g0, g1]) rfl ⟨_, rfl, rfl, hBF⟩
def sheetP (k : Nat) (s0 s1 : Int) (half : Bool) : List PtQ := (shapeP k).map fun p => (placeQ s0 half p.1, placeQ s1 half p.2)
theorem shapeP_small (k : Nat) : ∀ p ∈ shapeP k, (0 <= p.1 /\ p.1 <= 6) /\ (0 <= p.2 /\ p.2 <= 6) := by
 unfold shapeP;split <;> decide
theorem shapeP_len (k : Nat) : (shapeP k).length <= 6 := by
 unfold shapeP;split <;> decide
theorem info_Point : ((Tryz.prog).info? 63).map (fun i => (i.zero, i.size, i.bytes)) = some (some (.agg #[.string ⟨#[]⟩, .string ⟨#[]⟩]), 2, 32) := by kernel_rfl
theorem two_str (x y : ByteArray) : ∀ u ∈ [Value.string x, .string y], u.oneCell' = true := by
 intro u hu;simp at hu;rcases hu with rfl | rfl <;> rfl
theorem make12_any (w : World) (kz s0 s1 : Int) (half : Bool) (k : Nat) (hk : kz.tmod 8 = (k : Int)) (hk0 : 0 <= kz) (hk1 : kz <= 255) (hs0 : -128 <= s0 /\ s0 <= 127) (hs1 : -128 <= s1 /\ s1 <= 127) (hg : Good w) :
 Calls Tryz.prog 51 #[.agg #[.int .u8 kz, .int .i8 s0, .int .i8 s1, .bool half]] w (Ret (fun r w' => ∃ vp vt, r = .agg #[vp, vt] /\ RdP w' vp (strP (sheetP k s0 s1 half)) /\ RdT w' vt (shapeT k)) w) := by
 obtain ⟨i0, hi, hz0, hz1, hz2⟩ := info_parts info_Point;have HSH := hid fun w hg => shape_any w kz k hk hk0 hk1 hg;have HSM := hid (shapeP_small k);have hln := shapeP_len k;have HPL : Hid (∀ (i : Nat) (h : i < (shapeP k).length) (w : World), Good w -> _) := fun i h w hg => place_any w kz s0 s1 half (shapeP k)[i].1 (shapeP k)[i].2 hs0 hs1 (by have := shapeP_small k _ (List.getElem_mem h); omega) (by have := shapeP_small k _ (List.getElem_mem h); omega) hg
 have HSP : Hid (sheetP k s0 s1 half = (shapeP k).map fun p => (placeQ s0 half p.1, placeQ s1 half p.2)) := rfl;generalize sheetP k s0 s1 half = Q at *;generalize shapeP k = N at *;generalize shapeT k = T at *;clear hk hk0 hk1 hs0 hs1;go_enter Tryz.func51, Tryz.ntmps51;go_wp2_with fail;obtain ⟨W, hW⟩ : ∃ W, W = (w.alloc (.cells #[.int .u8 kz, .int .i8 s0, .int .i8 s1, .bool half] 25)).alloc (.cells #[.slice none 0 0, .slice none 0 0] 37) := ⟨_, rfl⟩;have hB : Below w.heap.size w W := by rw [hW]; exact zal2 _ _ _
 have b1 : BoxN W w.heap.size 25 [.int .u8 kz, .int .i8 s0, .int .i8 s1, .bool half] := by
  rw [hW];have h1 := (BoxN.new w #[.int .u8 kz, .int .i8 s0, .int .i8 s1, .bool half] 25 _ rfl);exact h1.below (zal _ _) h1.lt
 have b2 : BoxN W (w.heap.size + 1) 37 [.slice none 0 0, .slice none 0 0] := by rw [hW]; exact BoxN.new _ _ _ _ (by simp)
 rw [<- hW];clear hW;have c0 := b1.cell 0 rfl;go_wp2_with fail;refine (HSH.out W (hg.below hB)).mono ?_;rintro e w1 ⟨_, rfl, ⟨vn, vt, rfl, hN, hT⟩, hb1⟩;have hB1 := hB.trans (hb1.mono hB.size);have b11 := b1.below hb1 b1.lt;have b21 := b2.below hb1 b2.lt;clear hb1 hB b1 b2 c0 HSH;obtain ⟨pn, cn, rfl, hnc, hnm, hnr⟩ := hN.open;have HNR := hid hnr;have HT := hid hT;obtain ⟨pt, ct, rfl, _, _, _⟩ := hT.open;clear hN hT hnr;go_wp2_with fail;obtain ⟨W2, hW2⟩ : ∃ W, W = w1.alloc (.cells #[.slice none 0 0, .slice pt T.length ct] 37) := ⟨_, rfl⟩;have hb2 : Below w1.heap.size w1 W2 := by rw [hW2]; exact zal _ _
 have b5 : BoxN W2 w1.heap.size 37 [.slice none 0 0, .slice pt T.length ct] := by rw [hW2]; exact BoxN.new _ _ _ _ rfl
 have hB2 := hB1.trans (hb2.mono hB1.size);have hl1 := b11.lt;have hl2 := b21.lt;have hl5 := b5.lt;rw [<- hW2];clear hW2;have BXX := hid b11;go_loopw [6] (fun t6 wr => ∃ (i : Nat) (v : Value), t6 = .int .i64 i /\ i <= N.length /\ BoxN wr w1.heap.size 37 [v, .slice pt T.length ct] /\ wr.ownsRow (w1.heap.size + 1) 63 2 v i (cellsP (strP (Q.take i))) /\ Below w1.heap.size w1 wr /\ w1.heap.size + 1 <= wr.heap.size) (fun t6 _ => N.length - (RowKit.intOf t6).toNat)
 case atStart => exact ⟨0, _, rfl, Nat.zero_le _, b5, World.ownsRow_nil _ _ _ _, hb2, hl5⟩
 case round =>
  obtain ⟨i, v, rfl, hin, b5r, hown, hbr, hzr⟩ := hrel;obtain ⟨p5, c5, rfl⟩ := ownsRow_shape hown;rcases Nat.lt_or_ge i N.length with h | h
  ·obtain ⟨bn, on, rfl, hbn, hnc'⟩ := HNR.out (by intro e; rw [e] at h; simp at h)
   obtain ⟨n0, n1⟩ := hnc' i h;obtain ⟨⟨e0, e1⟩, e2, e3⟩ := HSM.out _ (List.getElem_mem h);have HQ : Hid (Q.take (i + 1) = Q.take i ++ [(placeQ s0 half N[i].1, placeQ s1 half N[i].2)]) := take_snoc _ _ _ (by rw [HSP.out, List.getElem?_map, List.getElem?_eq_getElem h]; rfl);have HPI := hid (HPL.out i h);obtain ⟨⟨x, y⟩, hxy⟩ : ∃ q, q = N[i] := ⟨_, rfl⟩;rw [<- hxy] at n0 n1 e0 e1 e2 e3 HPI HQ;dsimp only at n0 n1 e0 e1 e2 e3 HPI HQ;generalize placeQ s0 half x = px at *;generalize placeQ s1 half y = py at *;have hx8 : IntKind.i8.wrap x = x := by unfold IntKind.wrap; simp [IntKind.signed, IntKind.bits]; omega
   have hy8 : IntKind.i8.wrap y = y := by unfold IntKind.wrap; simp [IntKind.signed, IntKind.bits]; omega
   have z0 := b5r.cell 0 rfl;have z1 := b5r.frozen 0;have hilt : (i : Int) < (N.length : Int) := by omega
   clear hnc' hxy HPL HSM;go_upto_region 6 with fail;have HF : Hid (∀ w', Below w1.heap.size w1 w' -> w'.cell? ⟨w.heap.size, 0, none⟩ = some (.int .u8 kz) /\ w'.cell? ⟨w.heap.size, 1, none⟩ = some (.int .i8 s0) /\ w'.cell? ⟨w.heap.size, 2, none⟩ = some (.int .i8 s1) /\ w'.cell? ⟨w.heap.size, 3, none⟩ = some (.bool half) /\ w'.cell? ⟨bn, on + i * 2, none⟩ = some (.int .i64 x) /\ w'.cell? ⟨bn, on + i * 2 + 1, none⟩ = some (.int .i64 y)) := fun w' hb => by
    have b1' := BXX.out.below hb hl1;exact ⟨b1'.cell 0 rfl, b1'.cell 1 rfl, b1'.cell 2 rfl, b1'.cell 3 rfl, (zcq hb hbn n0 :), (zcq hb hbn n1 :)⟩
   have h0 : Below w1.heap.size w1 wr.drew := hbr.trans ((below_drewN wr 1).mono (by omega));have hgd : Good wr.drew := (hg.below hB1).below h0;have HD4 : Hid (∀ w4, Below wr.drew.heap.size wr.drew w4 -> Below w1.heap.size w1 w4 /\ w4.cell? ⟨w1.heap.size, 0, none⟩ = some (.slice p5 i c5) /\ w4.frozen? ⟨w1.heap.size, 0, none⟩ = false /\ w4.ownsRow (w1.heap.size + 1) 63 2 (.slice p5 i c5) i (cellsP (strP (Q.take i))) /\ wr.heap.size <= w4.heap.size /\ BoxN w4 w1.heap.size 37 [.slice p5 i c5, .slice pt T.length ct]) := fun w4 hb4 => by
    have hb4' : Below wr.heap.size wr w4 := (below_drewN wr 1).trans hb4;exact ⟨h0.trans (hb4.mono (by show w1.heap.size <= wr.heap.size; omega)), (zcq hb4' b5r.lt z0 :), (hb4'.frozen (p := ⟨w1.heap.size, 0, none⟩) b5r.lt).trans z1, World.ownsRow.belowAll hown hb4', hb4'.size, b5r.below hb4' b5r.lt⟩
   clear n0 n1;rw [show Op.load 34 (.tmp 21) = id (Op.load 34 (.tmp 21)) from rfl];go_region_held3 (fun w' => w'.cell? ⟨w.heap.size, 0, none⟩ = some (.int .u8 kz) /\ w'.cell? ⟨w.heap.size, 1, none⟩ = some (.int .i8 s0) /\ w'.cell? ⟨w.heap.size, 2, none⟩ = some (.int .i8 s1) /\ w'.cell? ⟨w.heap.size, 3, none⟩ = some (.bool half) /\ w'.cell? ⟨bn, on + i * 2, none⟩ = some (.int .i64 x) /\ w'.cell? ⟨bn, on + i * 2 + 1, none⟩ = some (.int .i64 y))
    ((refine HF.out _ ?_; first | with_reducible assumption | exact hw4a | exact hw5s))
    (first
      | (refine step_append_lies _ (by rfl) (.tmp 22) (.tmp 38) 34 (by rfl) (w1.heap.size + 1) 63 i0 (.agg #[.string ⟨#[]⟩, .string ⟨#[]⟩]) 2 32 Tryz.underlying34 hi hz0 hz1 hz2 rfl (by decide) _ i _ (by simp [Act.eval]) (hown4.alloc _) ⟨w4.heap.size, 0, none⟩ 1 1 [.string (RS px), .string (RS py)] (by simp [Act.eval]) rfl (cell_two _ _ _ _) (two_str _ _) (by omega) (by unfold maxLen; omega) (by omega) (by simp; omega) _ rfl ?_
         intro g5 cap5 w5 hown5 hgr5 hat5 hlt5;have hne5 : some w1.heap.size ≠ (Value.slice p5 i c5).ownBlock := fun e => by have := (hown4.lt _ e.symm).1; omega
         have z5 := (hgr5.cell_far ⟨w1.heap.size, 0, none⟩ (by simp; omega) hne5).trans (cell_alloc_l _ z0');have z5f := (hgr5.frozen_far ⟨w1.heap.size, 0, none⟩ (by simp; omega) hne5).trans (frozen_alloc_l _ z0' z1');have bz5 : BoxN w5 w1.heap.size 37 [.slice p5 i c5, .slice pt T.length ct] := (hgr5.block w1.heap.size (by simp; omega) hne5).trans (bz4.below ((Below.refl _ _).alloc (Nat.le_refl _) _) bz4.lt);have hw5 : Below w1.heap.size w1 w5 := (hw4.alloc (by omega) _).grown hgr5 (by simp; omega) (fun j hj => by have := (hown4.lt j hj).1; omega);have hw5s : Below w1.heap.size w1 (w5.setCell ⟨w1.heap.size, 0, none⟩ (.slice (some ⟨g5, 0, none⟩) (i + 1) cap5)) := hw5.setCell (Nat.le_refl _) _;have hz5 := hgr5.size)
      | (go_at_call 25; refine (HPI.out _ hgd).mono ?_; rintro e w4 ⟨_, rfl, rfl, hb4⟩
         obtain ⟨hw4, z0', z1', hown4, hz4, bz4⟩ := HD4.out _ hb4;have z0a := cell_alloc_l (.cells #[.string (RS px), .string (RS py)] 63) z0';have hw4a : Below w1.heap.size w1 (w4.alloc (.cells #[.string (RS px), .string (RS py)] 63)) := hw4.alloc (by omega) _))
   all_goals
    go_wp2_with fail;go_roundw
    case rel => exact ⟨i + 1, _, by simp, by omega, bz5.set 0 _, by rw [HQ.out, show cellsP (strP (Q.take i ++ [(px, py)])) = cellsP (strP (Q.take i)) ++ [.string (RS px), .string (RS py)] by simp [cellsP, strP]]; exact ownsRow_setCell_below hown5 (by show w1.heap.size < w1.heap.size + 1; omega) _, hw5s, by simp [World.setCell] at hz5 ⊢; omega⟩
    case measure =>
     show N.length - ((i : Int) + 1).toNat < N.length - (i : Int).toNat;omega
  ·obtain rfl : i = N.length := by omega
   have HRP : Hid (RdP wr (.slice p5 N.length c5) (strP Q)) := by
    have h1 : RdC 2 wr (.slice p5 N.length c5) N.length (cellsP (strP (Q.take N.length))) := RdC.of_owns hown;have hql : Q.length = N.length := by rw [HSP.out, List.length_map]
    rw [List.take_of_length_le (by omega)] at h1;unfold Hid RdP;rw [strP_length, hql];exact h1
   have HRT : Hid (RdT wr (.slice pt T.length ct) T) := RdC.below HT.out hbr;have b2r := b21.below hbr hl2;have z0 := b5r.cell 0 rfl;have z1 := b5r.cell 1 rfl;have y0 := b2r.cell 0 rfl;have y1 := b2r.cell 1 rfl;have y2 := b2r.frozen 0;have y3 := b2r.frozen 1;have hBr : Below w.heap.size w wr := hB1.trans (hbr.mono (by have := hB1.size; omega));go_wp2_with fail;have BF := (b2r.set 0 (.slice p5 N.length c5)).set 1 (.slice pt T.length ct);have hBF := (hBr.setCell (p := ⟨w.heap.size + 1, 0, none⟩) (by show w.heap.size <= w.heap.size + 1; omega) (.slice p5 N.length c5)).setCell (p := ⟨w.heap.size + 1, 1, none⟩) (by show w.heap.size <= w.heap.size + 1; omega) (.slice pt T.length ct);have g0 := BF.cell 0 rfl;have g1 := BF.cell 1 rfl;have hne : ∀ y ∈ cellsP (strP Q), y ≠ .slice none 0 0 := by
    intro y hy;unfold cellsP at hy;obtain ⟨q, _, hq⟩ := List.mem_flatMap.1 hy;simp at hq;rcases hq with rfl | rfl <;> simp
   have hne2 : ∀ y ∈ cellsT T, y ≠ .slice none 0 0 := by
    intro y hy;unfold cellsT at hy;obtain ⟨q, _, hq⟩ := List.mem_flatMap.1 hy;simp at hq;rcases hq with rfl | rfl | rfl <;> simp
   have y1' := (b2r.set 0 (.slice p5 N.length c5)).cell 1 rfl;exact bodyPost_ret (v := .agg #[.slice p5 N.length c5, .slice pt T.length ct]) (by simp [results, Tryz.results51, go_sem, g0, g1]) rfl ⟨_, rfl, ⟨_, _, rfl, RdC.set_other (RdC.set_other HRP.out y0 hne) y1' hne, RdC.set_other (RdC.set_other HRT.out y0 hne2) y1' hne2⟩, hBF⟩
def shapeQ (k : Nat) : List PtQ := (shapeP k).map fun p => ((p.1 : Rat), (p.2 : Rat))
def formB (P : List PtQ) (T : List Tri) : Bool :=
 !T.isEmpty && (decide P.Nodup && (T.all (fun t => (idxOf t).all fun x => decide (0 <= x /\ x < (P.length : Int))) && (T.all (fun t => decide (0 < turnZ (P[t.1.toNat]?.getD (0, 0)) (P[t.2.1.toNat]?.getD (0, 0)) (P[t.2.2.toNat]?.getD (0, 0)))) &&
  (wholeB P T && (outerL (keysOf T)).all fun x => decide (0 <= x /\ x < (P.length : Int))))))
theorem shape_form (k : Nat) : formB (shapeQ k) (shapeT k) = true := by
 unfold shapeQ shapeP shapeT;split <;> decide +kernel
theorem getD_move (s t d : Rat) (P : List PtQ) (i : Nat) (h : i < P.length) : (P.map (moveP s t d))[i]?.getD (0, 0) = moveP s t d (P[i]?.getD (0, 0)) := by
 rw [List.getElem?_map, List.getElem?_eq_getElem h]; rfl
theorem ptAt_move (s t d : Rat) (P : List PtQ) (c : List Int) (hc : ∀ x ∈ c, 0 <= x /\ x < (P.length : Int)) (hne : c ≠ []) (i : Nat) : ptAt (P.map (moveP s t d)) c i = moveP s t d (ptAt P c i) := by
 unfold ptAt;have hl : i % c.length < c.length := Nat.mod_lt _ (List.length_pos_iff.2 hne);have := hc c[i % c.length] (List.getElem_mem hl);rw [List.getElem?_eq_getElem hl, Option.getD_some];exact getD_move s t d P _ (by omega)
theorem moveP_inj (s t d : Rat) (hd : 0 < d) {p q : PtQ} (h : moveP s t d p = moveP s t d q) : p = q := by
 unfold moveP at h;have h1 := congrArg Prod.fst h;have h2 := congrArg Prod.snd h;dsimp only at h1 h2;have key : ∀ a b z : Rat, (a + z) * d = (b + z) * d -> a = b := fun a b z e => by
  have e1 : (a - b) * d = 0 := by grind
  rcases Rat.mul_eq_zero.1 e1 with e2 | e2
  ·grind
  ·rw [e2] at hd; exact absurd hd (Rat.lt_irrefl)
 exact Prod.ext (key _ _ _ h1) (key _ _ _ h2)
theorem form_move (s t d : Rat) (hd : 0 < d) (P : List PtQ) (T : List Tri) (h : formB P T = true) : formB (P.map (moveP s t d)) T = true := by
 unfold formB at *;simp only [Bool.and_eq_true, List.all_eq_true, decide_eq_true_eq, List.length_map] at *;obtain ⟨h1, h2, h3, h4, h5, h6⟩ := h;have hin : ∀ t ∈ T, ∀ x ∈ idxOf t, x.toNat < P.length := fun t ht x hx => by have := h3 t ht x hx; omega
 refine ⟨h1, ?_, h3, ?_, ?_, h6⟩
 ·exact List.Pairwise.map _ (fun a b hab e => hab (moveP_inj s t d hd e)) h2
 ·intro tr htr
  have i0 := hin tr htr tr.1 (by simp [idxOf]);have i1 := hin tr htr tr.2.1 (by simp [idxOf]);have i2 := hin tr htr tr.2.2 (by simp [idxOf]);rw [getD_move _ _ _ _ _ i0, getD_move _ _ _ _ _ i1, getD_move _ _ _ _ _ i2, turnZ_move s t d hd];exact h4 tr htr
 ·unfold wholeB at *
  simp only [Bool.and_eq_true, List.length_map] at *;refine ⟨h5.1, ⟨h5.2.1.1, h5.2.1.2⟩, ?_⟩;have hne : outerL (keysOf T) ≠ [] := by
   have := h5.2.1.1;intro e;rw [e] at this;simp at this
  have hpt := ptAt_move s t d P (outerL (keysOf T)) h6 hne;rw [<- h5.2.2];unfold onceB roundsN;have e1 : bentAt (P.map (moveP s t d)) (outerL (keysOf T)) = bentAt P (outerL (keysOf T)) := funext fun i => by unfold bentAt; rw [hpt, hpt, hpt, turnZ_move s t d hd]
  have e2 : riseAt (P.map (moveP s t d)) (outerL (keysOf T)) = riseAt P (outerL (keysOf T)) := funext fun i => by unfold riseAt upAt; rw [hpt, hpt, hpt, upB_move s t d hd, upB_move s t d hd]
  rw [e1, e2]
theorem MeshOK.of_form {P : List PtQ} {T : List Tri} {k : Nat} (hk : 0 < k) (hk2 : k <= 200) (hs : ∀ p ∈ P, SzP k p) (hp : P.length <= 400) (ht : T.length <= 800) (h : formB P T = true) : MeshOK P T k := by
 unfold formB at h;simp only [Bool.and_eq_true, List.all_eq_true, decide_eq_true_eq] at h;obtain ⟨h1, h2, h3, h4, h5, h6⟩ := h;exact { kpos := hk, klim := by omega, sz := hs, plen := hp, tlen := ht, idx := h3, klim2 := hk2, some := by intro e; rw [e] at h1; simp at h1, apart := h2, turns := h4, whole := h5 }
theorem placeQ_move (s : Int) (half : Bool) (x : Int) : placeQ s half x = ((x : Rat) + (s.tmod 8 : Int)) * (1 / (halfD half : Rat)) := by
 unfold placeQ;have h0 : (halfD half : Rat) ≠ 0 := by cases half <;> decide
 rw [Rat.mkRat_eq_div];grind
theorem placeQ_Sz (s : Int) (half : Bool) (x : Int) (hx : 0 <= x /\ x <= 6) : Sz 2 (placeQ s half x) := by
 have := tmod8_bound s;exact Sz.mkRat (by cases half <;> decide) (by omega) (by cases half <;> decide)
theorem sheet_ok (k : Nat) (s0 s1 : Int) (half : Bool) : MeshOK (sheetP k s0 s1 half) (shapeT k) 2 := by
 refine MeshOK.of_form (by omega) (by omega) ?_ ?_ ?_ ?_
 ·intro p hp
  obtain ⟨q, hq, rfl⟩ := List.mem_map.1 hp;have := shapeP_small k q hq;exact ⟨placeQ_Sz _ _ _ this.1, placeQ_Sz _ _ _ this.2⟩
 ·unfold sheetP
  have := shapeP_len k;rw [List.length_map]; omega
 ·unfold shapeT
  split <;> decide
 ·have e : sheetP k s0 s1 half = (shapeQ k).map (moveP (s0.tmod 8 : Int) (s1.tmod 8 : Int) (1 / (halfD half : Rat))) := by
   unfold sheetP shapeQ;rw [List.map_map];refine List.map_congr_left fun p _ => ?_;show (_, _) = moveP _ _ _ _;unfold moveP;rw [placeQ_move, placeQ_move]
  rw [e];exact form_move _ _ _ (by cases half <;> decide +kernel) _ _ (shape_form k)
theorem sz1 (n : Nat) (h : n < 10) : Sz 1 ((n : Int) : Rat) := ⟨by rw [Rat.num_intCast]; omega, by rw [Rat.den_intCast]; omega⟩
theorem sign_if (q : Rat) : q.num.sign = if q < 0 then -1 else if 0 < q then 1 else 0 := by
 split
 ·rename_i h; exact Int.sign_eq_neg_one_of_neg (num_lt_zero_iff.2 h)
 ·split
  ·rename_i h; exact Int.sign_eq_one_of_pos (num_pos_iff.2 h)
  ·rename_i h1 h2
   have : q = 0 := Rat.le_antisymm (Rat.not_lt.1 h2) (Rat.not_lt.1 h1);subst this; rfl
theorem gb_below {W wr wx : World} {M : Option Nat} (h : W.grownBy wr M) (hb : Below wr.heap.size wr wx) : W.grownBy wx M :=
 ⟨hb.os.trans h.os, hb.tape.trans h.tape, hb.output.trans h.output, Nat.le_trans h.size hb.size, fun j hj hjn => (hb.block j (Nat.lt_of_lt_of_le hj h.size)).trans (h.block j hj hjn)⟩
theorem gb_set {W wr : World} {M : Nat} (h : W.grownBy wr (some M)) (i : Nat) (v : Value) : W.grownBy (wr.setCell ⟨M, i, none⟩ v) (some M) :=
 ⟨h.os, h.tape, h.output, by simpa using h.size, fun j hj hjn => (Below.heap_setCell _ _ _ j (by rintro rfl; exact hjn rfl)).trans (h.block j hj hjn)⟩
theorem gb_refl (W : World) (M : Option Nat) : W.grownBy W M := ⟨rfl, rfl, rfl, Nat.le_refl _, fun _ _ _ => rfl⟩
theorem BoxN.gb {w w' : World} {M : Option Nat} {b t : Nat} {l : List Value} (h : BoxN w b t l) (hb : w.grownBy w' M) (hn : M ≠ some b) : BoxN w' b t l := (hb.block b h.lt (fun e => hn e.symm)).trans h
theorem RdC.gb {sz : Nat} {w w' : World} {v : Value} {n M t : Nat} {cs l : List Value} (h : RdC sz w v n cs) (hg : w.grownBy w' (some M)) (hb : BoxN w M t l) (hne : ∀ y ∈ cs, y ∉ l) : RdC sz w' v n cs := by
 obtain ⟨p, q, hv, h1, h2, h3, h4⟩ := h;refine ⟨p, q, hv, h1, h2, h3, fun hn => ?_⟩;obtain ⟨b, off, hp, hr⟩ := h4 hn;refine ⟨b, off, hp, fun i x hx => ?_⟩;have hc := hr i x hx;have hbM : b ≠ M := by
  rintro rfl;have hh : w.heap[b]? = some (.cells l.toArray t (0, 0)) := hb;have h5 : l[off + i]? = some x := by
   simp [World.cell?, hh] at hc;exact hc
  exact hne x (List.mem_of_getElem? hx) (List.mem_of_getElem? h5)
 have hlt : b < w.heap.size := by
  rcases Nat.lt_or_ge b w.heap.size with h | h
  ·exact h
  ·have : w.heap[b]? = none := Array.getElem?_eq_none h
   simp [World.cell?, this] at hc
 have he := hg.block b hlt (by intro e; injection e with e; exact hbM e);have : w'.cell? ⟨b, off + i, none⟩ = w.cell? ⟨b, off + i, none⟩ := by simp [World.cell?, he]
 rw [this]; exact hc
open Go.Shelf
attribute [local go_sem] Oper.semAt_some
theorem MeshOK.nodup {P : List PtQ} {T : List Tri} {k : Nat} (h : MeshOK P T k) : (keysOf T).Nodup := by
 have := h.whole;unfold wholeB at this;rw [Bool.and_eq_true] at this;exact of_decide_eq_true this.1
end Go.Proofs.YtgdpoankaojklaaGreatDoor
namespace Go.Proofs.YtgdpoankaojklaaGreatDoor
open Go.RowKit Go.Lib
theorem FreshV.mono {n m : Nat} {v : Value} (h : FreshV n v) (hm : m <= n) : FreshV m v := fun a l c e => Nat.le_trans hm (h a l c e)
theorem areaQ_Sz {a b c : PtQ} {k : Nat} (ha : SzP k a) (hb : SzP k b) (hc : SzP k c) : Sz (8 * k + 5) (areaQ a b c) := by
 unfold areaQ;exact (((hb.1.sub ha.1).mul (hc.2.sub ha.2)).sub ((hb.2.sub ha.2).mul (hc.1.sub ha.1))).mono (by omega)
abbrev Cor := PtQ × Rat
def towQ (a b k : Rat) : Rat := a + k * (b - a)
theorem ftoward_any (a b x : Rat) (k : Nat) (hk : 0 < k) (hk2 : k <= 5000) (ha : Sz k a) (hb : Sz k b) (hx : Sz k x) (w : World) (hg : Good w) :
 Calls Tryz.prog 213 #[.string (RS a), .string (RS b), .string (RS x)] w (Ret (fun r _ => r = .string (RS (towQ a b x))) w) := by
 have d1 : Sz (2 * k + 1) (b - a) := (hb.sub ha).mono (by omega);have d2 : Sz (3 * k + 1) (x * (b - a)) := (hx.mul d1).mono (by omega);have H1 := hid fun w hg => ratSub_any b a k hk (by omega) hb ha w hg
 have H2 := hid fun w hg => ratMul_any x (b - a) (2 * k + 1) (by omega) (by omega) (hx.mono (by omega)) d1 w hg
 have H3 := hid fun w hg => ratAdd_any a (x * (b - a)) (3 * k + 1) (by omega) (by omega) (ha.mono (by omega)) d2 w hg
 unfold towQ;generalize a + x * (b - a) = r at *;generalize x * (b - a) = q at *;generalize b - a = p at *;clear ha hb hx d1 d2;go_enter Tryz.func213, Tryz.ntmps213;go_wp2_with fail;refine (H1.out _ hg).mono ?_;rintro e w1 ⟨_, rfl, rfl, hb1⟩;go_wp2_with fail;refine (H2.out w1 (hg.below hb1)).mono ?_;rintro e w2 ⟨_, rfl, rfl, hb2⟩;have hB2 := hb1.trans (hb2.mono hb1.size);go_wp2_with fail;refine (H3.out w2 (hg.below hB2)).mono ?_;rintro e w3 ⟨_, rfl, rfl, hb3⟩;have hB3 := hB2.trans (hb3.mono hB2.size);go_wp2_with fail;go_ret;exact ⟨_, rfl, rfl, hB3⟩
theorem idx_C0 (a b c d e f g h i : Value) (w : World) : (Instr.index 235 (.agg #[a, b, c, d, e, f, g, h, i]) (.int .i64 0)).run Tryz.prog w = .ok (.agg #[a, b, c]) w := by kernel_rfl
theorem idx_C1 (a b c d e f g h i : Value) (w : World) : (Instr.index 235 (.agg #[a, b, c, d, e, f, g, h, i]) (.int .i64 1)).run Tryz.prog w = .ok (.agg #[d, e, f]) w := by kernel_rfl
theorem idx_C2 (a b c d e f g h i : Value) (w : World) : (Instr.index 235 (.agg #[a, b, c, d, e, f, g, h, i]) (.int .i64 2)).run Tryz.prog w = .ok (.agg #[g, h, i]) w := by kernel_rfl
def cellC (c : Cor) : List Value := [.string (RS c.1.1), .string (RS c.1.2), .string (RS c.2)]
def cellsC (l : List Cor) : List Value := l.flatMap cellC
def RdK (w : World) (v : Value) (l : List Cor) : Prop := RdC 3 w v l.length (cellsC l)
theorem cellsC_snoc (l : List Cor) (c : Cor) : cellsC (l ++ [c]) = cellsC l ++ [.string (RS c.1.1), .string (RS c.1.2), .string (RS c.2)] := by simp [cellsC, cellC]
theorem RdK.open {w : World} {v : Value} {l : List Cor} (h : RdK w v l) : ∃ p c, v = .slice p l.length c /\ l.length <= c /\ c <= maxLen /\
 (l ≠ [] -> ∃ b off, p = some ⟨b, off, none⟩ /\ b < w.heap.size /\ ∀ (i : Nat) (hi : i < l.length), w.cell? ⟨b, off + i * 3, none⟩ = some (.string (RS l[i].1.1)) /\ w.cell? ⟨b, off + i * 3 + 1, none⟩ = some (.string (RS l[i].1.2)) /\ w.cell? ⟨b, off + i * 3 + 2, none⟩ = some (.string (RS l[i].2))) := by
 obtain ⟨p, c, hv, h1, h2, h3, h4⟩ := h;refine ⟨p, c, hv, h1, h2, fun hne => ?_⟩;obtain ⟨b, off, hp, hc⟩ := h4 (by
  cases l with
  | nil => exact absurd rfl hne
  | cons a l => simp [cellsC, cellC])
 have hcell : ∀ (i : Nat) (hi : i < l.length), w.cell? ⟨b, off + i * 3, none⟩ = some (.string (RS l[i].1.1)) /\ w.cell? ⟨b, off + i * 3 + 1, none⟩ = some (.string (RS l[i].1.2)) /\ w.cell? ⟨b, off + i * 3 + 2, none⟩ = some (.string (RS l[i].2)) := fun i hi => by
  have e := getElem?_flatMap_const cellC 3 (fun _ => rfl) l i;refine ⟨?_, ?_, ?_⟩
  ·have := hc (i * 3) (.string (RS l[i].1.1)) (by have := e 0 (by omega); rw [Nat.add_zero] at this; unfold cellsC; rw [this, List.getElem?_eq_getElem hi]; rfl)
   exact this
  ·have := hc (i * 3 + 1) (.string (RS l[i].1.2)) (by have := e 1 (by omega); unfold cellsC; rw [this, List.getElem?_eq_getElem hi]; rfl)
   rw [<- Nat.add_assoc] at this;exact this
  ·have := hc (i * 3 + 2) (.string (RS l[i].2)) (by have := e 2 (by omega); unfold cellsC; rw [this, List.getElem?_eq_getElem hi]; rfl)
   rw [<- Nat.add_assoc] at this;exact this
 exact ⟨b, off, hp, World.block_lt_of_cell? w _ (hcell 0 (List.length_pos_iff.2 hne)).1, hcell⟩
def crossK (a b : Cor) (z : Rat) : Cor := ((towQ a.1.1 b.1.1 ((a.2 - z) / ((a.2 - z) - (b.2 - z))), towQ a.1.2 b.1.2 ((a.2 - z) / ((a.2 - z) - (b.2 - z)))), z)
def cutS (a b : Cor) (z : Rat) : List Cor := (if 0 <= (a.2 - z).num.sign then [a] else []) ++ (if (a.2 - z).num.sign * (b.2 - z).num.sign < 0 then [crossK a b z] else [])
def corA (c0 c1 c2 : Cor) : Nat -> Cor | 0 => c0 | 1 => c1 | _ => c2
def corB (c0 c1 c2 : Cor) : Nat -> Cor | 0 => c1 | 1 => c2 | _ => c0
def cutTo (c0 c1 c2 : Cor) (z : Rat) : Nat -> List Cor | 0 => [] | i + 1 => cutTo c0 c1 c2 z i ++ cutS (corA c0 c1 c2 i) (corB c0 c1 c2 i) z
def someTo (c0 c1 c2 : Cor) (z : Rat) : Nat -> Bool | 0 => false | i + 1 => someTo c0 c1 c2 z i || decide (0 < ((corA c0 c1 c2 i).2 - z).num.sign)
def cutL (c0 c1 c2 : Cor) (z : Rat) : List Cor := if someTo c0 c1 c2 z 3 then cutTo c0 c1 c2 z 3 else []
theorem cutS_len (a b : Cor) (z : Rat) : (cutS a b z).length <= 2 := by
 unfold cutS;rw [List.length_append];split <;> split <;> simp
theorem cutTo_len (c0 c1 c2 : Cor) (z : Rat) : ∀ i, (cutTo c0 c1 c2 z i).length <= 2 * i
 | 0 => by simp [cutTo]
 | i + 1 => by
   have h1 := cutTo_len c0 c1 c2 z i;have h2 := cutS_len (corA c0 c1 c2 i) (corB c0 c1 c2 i) z;unfold cutTo;rw [List.length_append];omega
theorem cutTo_ne (c0 c1 c2 : Cor) (z : Rat) : ∀ i, someTo c0 c1 c2 z i = true -> cutTo c0 c1 c2 z i ≠ []
 | 0, h => by simp [someTo] at h
 | i + 1, h => by
   unfold someTo at h;rw [Bool.or_eq_true] at h;unfold cutTo;rcases h with h | h
   ·intro e
    exact cutTo_ne c0 c1 c2 z i h (List.append_eq_nil_iff.1 e).1
   ·have h1 := of_decide_eq_true h
    intro e;have e2 := (List.append_eq_nil_iff.1 e).2;unfold cutS at e2;rw [if_pos (by omega)] at e2;simp at e2
theorem str_zero_test (q : Rat) : (RS q).toList = [48] ↔ q.num.sign = 0 := by
 have h := RS_eq48 q;rw [Int.sign_eq_zero_iff_zero, Rat.num_eq_zero];by_cases hq : q = 0
 ·rw [decide_eq_true hq] at h
  exact ⟨fun _ => hq, fun _ => by simpa using h⟩
 ·rw [decide_eq_false hq] at h
  exact ⟨fun e => by rw [e] at h; simp at h, fun e => absurd e hq⟩
theorem sign3 (q : Rat) : q.num.sign = -1 \/ q.num.sign = 0 \/ q.num.sign = 1 := by
 rcases Int.lt_trichotomy q.num 0 with h | h | h
 ·exact .inl (Int.sign_eq_neg_one_of_neg h)
 ·exact .inr (.inl (by rw [h]; rfl))
 ·exact .inr (.inr (Int.sign_eq_one_of_pos h))
theorem info_corner : ((Tryz.prog).info? 234).map (fun i => (i.zero, i.size, i.bytes)) = some (some (.agg #[.string ⟨#[]⟩, .string ⟨#[]⟩, .string ⟨#[]⟩]), 3, 48) := by kernel_rfl
theorem cell_three (w : World) (x y z : Value) (E : Nat) : ∀ (j : Nat) (u : Value), [x, y, z][j]? = some u -> (w.alloc (.cells #[x, y, z] E)).cell? ((⟨w.heap.size, 0, none⟩ : Addr).add j) = some u := World.news_of_block (cs := #[x, y, z]) (t := E) (fr := (0, 0)) (World.alloc_heap_new w _)
theorem three_str (x y z : ByteArray) : ∀ u ∈ [Value.string x, .string y, .string z], u.oneCell' = true := by
 intro u hu; simp at hu; rcases hu with rfl | rfl | rfl <;> rfl
def corP (P : List PtQ) (F : List Rat) (z : Int) : Cor := (ptI P z, hI F z)
def partT (P : List PtQ) (F : List Rat) (z : Rat) (tr : Tri) : List Cor := cutL (corP P F tr.1) (corP P F tr.2.1) (corP P F tr.2.2) z
def triI (T : List Tri) (j : Int) : Tri := T[j.toNat]?.getD (0, 0, 0)
theorem triI_nat (T : List Tri) (m : Nat) (h : m < T.length) : triI T (m : Int) = T[m] := by
 unfold triI; rw [Int.toNat_natCast, List.getElem?_eq_getElem h]; rfl
def corI (l : List Cor) (i : Nat) : Cor := l[i]?.getD ((0, 0), 0)
theorem corI_nat (l : List Cor) (i : Nat) (h : i < l.length) : corI l i = l[i] := by
 unfold corI; rw [List.getElem?_eq_getElem h]; rfl
theorem cutL_len (c0 c1 c2 : Cor) (z : Rat) : (cutL c0 c1 c2 z).length <= 6 := by
 unfold cutL;split
 ·exact cutTo_len c0 c1 c2 z 3
 ·simp
def fanI (c : List Cor) (z : Rat) : Nat -> Rat
 | 0 => 0
 | n + 1 => fanI c z n + areaQ (corI c 0).1 (corI c (n + 1)).1 (corI c (n + 2)).1 * (1 / 2) * (((corI c 0).2 + (corI c (n + 1)).2 + (corI c (n + 2)).2) * (1 / 3) - z)
def integ (c : List Cor) (z : Rat) : Rat := fanI c z (c.length - 2)
def volTo (P : List PtQ) (T : List Tri) (F : List Rat) (z : Rat) : Nat -> Rat
 | 0 => 0
 | t + 1 => volTo P T F z t + integ (partT P F z (triI T t)) z
theorem ownsRow_base {w : World} {b b' e s n : Nat} {v : Value} {xs : List Value} (h : w.ownsRow b e s v n xs) (hb : b' <= b) : w.ownsRow b' e s v n xs := by
 obtain ⟨h1, h2⟩ := h;refine ⟨h1, ?_⟩;rcases h2 with h2 | ⟨g, cap, cur, hv, hg, hr⟩
 ·exact .inl h2
 ·exact .inr ⟨g, cap, cur, hv, Nat.le_trans hb hg, hr⟩
theorem owns_apart {w : World} {b1 b2 e1 e2 s1 s2 n1 n2 : Nat} {v1 v2 : Value} {x1 x2 : List Value} (h1 : w.ownsRow b1 e1 s1 v1 n1 x1) (h2 : w.ownsRow b2 e2 s2 v2 n2 x2) (hne : e1 ≠ e2) : v1.ownBlock = none \/ v1.ownBlock ≠ v2.ownBlock := by
 rcases h1.2 with ⟨rfl, _⟩ | ⟨g, cap, cur, rfl, _, hg, _⟩
 ·exact .inl rfl
 ·refine .inr fun e => ?_
  rcases h2.2 with ⟨rfl, _⟩ | ⟨g', cap', cur', rfl, _, hg', _⟩
  ·simp [Value.ownBlock] at e
  ·simp [Value.ownBlock] at e
   subst e;rw [hg] at hg';injection hg' with h
   injection h with _ h
   exact hne h
theorem owns_boxN {w : World} {b1 e1 s1 n1 b t : Nat} {v1 : Value} {x1 l : List Value} (h1 : w.ownsRow b1 e1 s1 v1 n1 x1) (h2 : BoxN w b t l) (hne : e1 ≠ t) : some b ≠ v1.ownBlock := by
 rcases h1.2 with ⟨rfl, _⟩ | ⟨g, cap, cur, rfl, _, hg, _⟩
 ·intro e; simp [Value.ownBlock] at e
 ·intro e
  simp [Value.ownBlock] at e;subst e;rw [show w.heap[b]? = _ from h2] at hg;injection hg with h
  injection h with _ h
  exact hne h.symm
theorem fcut_any (c0 c1 c2 : Cor) (z : Rat) (k : Nat) (hk : 0 < k) (hk2 : k <= 300) (h0 : SzP k c0.1 /\ Sz k c0.2) (h1 : SzP k c1.1 /\ Sz k c1.2) (h2 : SzP k c2.1 /\ Sz k c2.2) (hz : Sz k z) (w : World) (hg : Good w) :
 Calls Tryz.prog 176 #[.agg #[.string (RS c0.1.1), .string (RS c0.1.2), .string (RS c0.2), .string (RS c1.1.1), .string (RS c1.1.2), .string (RS c1.2), .string (RS c2.1.1), .string (RS c2.1.2), .string (RS c2.2)], .string (RS z)] w (Ret (fun r w' => w'.ownsRow w.heap.size 234 3 r (cutL c0 c1 c2 z).length (cellsC (cutL c0 c1 c2 z)) /\ (cutL c0 c1 c2 z = [] -> r = .slice none 0 0)) w) := by
 have HZ := hid hz;obtain ⟨s00, hs00⟩ : ∃ s, s = RS c0.1.1 := ⟨_, rfl⟩;obtain ⟨s01, hs01⟩ : ∃ s, s = RS c0.1.2 := ⟨_, rfl⟩;obtain ⟨s02, hs02⟩ : ∃ s, s = RS c0.2 := ⟨_, rfl⟩;obtain ⟨s10, hs10⟩ : ∃ s, s = RS c1.1.1 := ⟨_, rfl⟩;obtain ⟨s11, hs11⟩ : ∃ s, s = RS c1.1.2 := ⟨_, rfl⟩;obtain ⟨s12, hs12⟩ : ∃ s, s = RS c1.2 := ⟨_, rfl⟩;obtain ⟨s20, hs20⟩ : ∃ s, s = RS c2.1.1 := ⟨_, rfl⟩;obtain ⟨s21, hs21⟩ : ∃ s, s = RS c2.1.2 := ⟨_, rfl⟩;obtain ⟨s22, hs22⟩ : ∃ s, s = RS c2.2 := ⟨_, rfl⟩;rw [<- hs00, <- hs01, <- hs02, <- hs10, <- hs11, <- hs12, <- hs20, <- hs21, <- hs22];have HCO : Hid (∀ i : Nat, i < 3 -> ∃ (A B : Cor) (j : Nat), A = corA c0 c1 c2 i /\ B = corB c0 c1 c2 i /\ ((i : Int) + 1).tmod 3 = (j : Int) /\ j < 3 /\ (SzP k A.1 /\ Sz k A.2) /\ (SzP k B.1 /\ Sz k B.2) /\
  (∀ w, (Instr.index 235 (.agg #[.string s00, .string s01, .string s02, .string s10, .string s11, .string s12, .string s20, .string s21, .string s22]) (.int .i64 (i : Int))).run Tryz.prog w = .ok (.agg #[.string (RS A.1.1), .string (RS A.1.2), .string (RS A.2)]) w) /\
  (∀ (w : World) (b : Nat), BoxN w b 235 [.string s00, .string s01, .string s02, .string s10, .string s11, .string s12, .string s20, .string s21, .string s22] -> w.cell? ⟨b, j * 3, none⟩ = some (.string (RS B.1.1)) /\ w.cell? ⟨b, j * 3 + 1, none⟩ = some (.string (RS B.1.2)) /\ w.cell? ⟨b, j * 3 + 2, none⟩ = some (.string (RS B.2)))) := fun i hi => by
  subst hs00 hs01 hs02 hs10 hs11 hs12 hs20 hs21 hs22;obtain rfl | rfl | rfl : i = 0 \/ i = 1 \/ i = 2 := by omega
  ·exact ⟨c0, c1, 1, rfl, rfl, rfl, by decide, h0, h1, idx_C0 _ _ _ _ _ _ _ _ _, fun w b h => ⟨h.cell 3 rfl, h.cell 4 rfl, h.cell 5 rfl⟩⟩
  ·exact ⟨c1, c2, 2, rfl, rfl, rfl, by decide, h1, h2, idx_C1 _ _ _ _ _ _ _ _ _, fun w b h => ⟨h.cell 6 rfl, h.cell 7 rfl, h.cell 8 rfl⟩⟩
  ·exact ⟨c2, c0, 0, rfl, rfl, rfl, by decide, h2, h0, idx_C2 _ _ _ _ _ _ _ _ _, fun w b h => ⟨h.cell 0 rfl, h.cell 1 rfl, h.cell 2 rfl⟩⟩
 clear hs00 hs01 hs02 hs10 hs11 hs12 hs20 hs21 hs22 h0 h1 h2 hz;obtain ⟨i0, hi, hzz0, hzz1, hzz2⟩ := info_parts info_corner;go_enter Tryz.func176, Tryz.ntmps176;go_wp2_with fail;obtain ⟨W, hW⟩ : ∃ W, W = w.alloc (.cells #[.string s00, .string s01, .string s02, .string s10, .string s11, .string s12, .string s20, .string s21, .string s22] 235) := ⟨_, rfl⟩;have hB : Below w.heap.size w W := by rw [hW]; exact zal _ _
 have e2 : BoxN W w.heap.size 235 [.string s00, .string s01, .string s02, .string s10, .string s11, .string s12, .string s20, .string s21, .string s22] := by rw [hW]; exact BoxN.new _ _ _ _ rfl
 rw [<- hW];clear hW;have hzW := e2.lt;go_loopw [5, 6, 16] (fun t5 t6 t16 wr => ∃ (i n : Nat) (b : Bool), t16 = .int .i64 i /\ t6 = .bool b /\ i <= 3 /\ n <= 2 * i /\ Hid ((cutTo c0 c1 c2 z i).length = n) /\ Hid (b = someTo c0 c1 c2 z i) /\ wr.ownsRow W.heap.size 234 3 t5 n (cellsC (cutTo c0 c1 c2 z i)) /\ Below W.heap.size W wr) (fun _ _ t16 _ => 3 - (RowKit.intOf t16).toNat)
 case atStart => exact ⟨0, 0, false, rfl, rfl, Nat.zero_le _, Nat.le_refl _, rfl, rfl, World.ownsRow_nil _ _ _ _, Below.refl _ _⟩
 case round =>
  obtain ⟨i, n, b, rfl, rfl, hin, hni, HLN, HSM, hown, hbr⟩ := hrel;obtain ⟨p5, c5, rfl⟩ := ownsRow_shape hown;have hzr := hbr.size;have HOB0 : ∀ j, (Value.slice p5 n c5).ownBlock = some j -> W.heap.size <= j /\ j < wr.heap.size := fun j hj => hown.lt j hj;rcases Nat.lt_or_ge i 3 with h | h
  ·obtain ⟨A, B, j, hA, hBj, hj, hj3, hsA, hsB, hix, hbx⟩ := HCO.out i h
   have HST : Hid (cutTo c0 c1 c2 z (i + 1) = cutTo c0 c1 c2 z i ++ cutS A B z) := by rw [hA, hBj]; rfl
   have HSS : Hid (someTo c0 c1 c2 z (i + 1) = (b || decide (0 < (A.2 - z).num.sign))) := by rw [hA, HSM.out]; rfl
   clear hA hBj;have HSA := hid hsA;have HSB := hid hsB;have hzx : Sz (2 * k + 1) (A.2 - z) := (hsA.2.sub HZ.out).mono (by omega);have hzy : Sz (2 * k + 1) (B.2 - z) := (hsB.2.sub HZ.out).mono (by omega);have HX := hid fun w hg => ratSub_any A.2 z k hk (by omega) hsA.2 HZ.out w hg
   have HY := hid fun w hg => ratSub_any B.2 z k hk (by omega) hsB.2 HZ.out w hg
   obtain ⟨x, hx⟩ : ∃ x, x = A.2 - z := ⟨_, rfl⟩;obtain ⟨y, hy⟩ : ∃ y, y = B.2 - z := ⟨_, rfl⟩;rw [<- hx] at hzx HX HSS;rw [<- hy] at hzy HY;have HDV : Hid (x - y ≠ 0 -> ∀ w, Good w -> _) := fun hne w hg => ratDiv_any x (x - y) (4 * k + 3) (by omega) (by omega) (hzx.mono (by omega)) ((hzx.sub hzy).mono (by omega)) hne w hg
   have HDS := hid fun w hg => ratSub_any x y (2 * k + 1) (by omega) (by omega) hzx hzy w hg
   have HQZ : Hid (x - y ≠ 0 -> Sz (8 * k + 6) (x / (x - y))) := fun hne => (hzx.div ((hzx.sub hzy).mono (Nat.le_refl _)) (by omega)).mono (by omega)
   have HTX : Hid (x - y ≠ 0 -> ∀ w, Good w -> _) := fun hne w hg => ftoward_any A.1.1 B.1.1 (x / (x - y)) (8 * k + 6) (by omega) (by omega) (hsA.1.1.mono (by omega)) (hsB.1.1.mono (by omega)) (HQZ.out hne) w hg
   have HTY : Hid (x - y ≠ 0 -> ∀ w, Good w -> _) := fun hne w hg => ftoward_any A.1.2 B.1.2 (x / (x - y)) (8 * k + 6) (by omega) (by omega) (hsA.1.2.mono (by omega)) (hsB.1.2.mono (by omega)) (HQZ.out hne) w hg
   have HC1 : Hid (cutS A B z = (if 0 <= x.num.sign then [A] else []) ++ (if x.num.sign * y.num.sign < 0 then [crossK A B z] else [])) := by rw [hx, hy]; rfl
   have HCK : Hid (crossK A B z = ((towQ A.1.1 B.1.1 (x / (x - y)), towQ A.1.2 B.1.2 (x / (x - y))), z)) := by rw [hx, hy]; rfl
   have HGX : Hid (∀ w, _) := fun w => ratSign_any x w;have HGY : Hid (∀ w, _) := fun w => ratSign_any y w;have HNE : Hid (x.num.sign * y.num.sign < 0 -> x - y ≠ 0) := fun hlt e => by
    have e2 : x = y := by grind
    rw [e2] at hlt;rcases sign3 y with e | e | e <;> rw [e] at hlt <;> exact absurd hlt (by decide)
   have HZT := hid (str_zero_test x);have HSX3 := hid (sign3 x);have HSY3 := hid (sign3 y);generalize x.num.sign = sx at *;generalize y.num.sign = sy at *;clear hzx hzy hsA hsB hx hy;have e2r := e2.below hbr e2.lt;have hbW : Below w.heap.size w wr := hB.trans (hbr.mono hB.size);have hj3z : (j : Int) < 3 := by omega
   have hi3z : (i : Int) < 3 := by omega
   clear HCO;go_upto_region 6 with fail;obtain ⟨W1, hW1⟩ : ∃ X, X = wr.alloc (.cells #[.string (RS A.1.1), .string (RS A.1.2), .string (RS A.2)] 234) := ⟨_, rfl⟩;have hb1 : Below wr.heap.size wr W1 := by rw [hW1]; exact zal _ _
   have e8 : BoxN W1 wr.heap.size 234 [.string (RS A.1.1), .string (RS A.1.2), .string (RS A.2)] := by rw [hW1]; exact BoxN.new _ _ _ _ rfl
   rw [<- hW1];clear hW1;have HZ1 := hid hb1.size;obtain ⟨k0, k1, k2⟩ := hbx _ _ (e2r.below hb1 e2r.lt);go_upto_region 7 with fail;obtain ⟨W2, hW2⟩ : ∃ X, X = W1.alloc (.cells #[.string (RS B.1.1), .string (RS B.1.2), .string (RS B.2)] 234) := ⟨_, rfl⟩;have hb2 : Below W1.heap.size W1 W2 := by rw [hW2]; exact zal _ _
   have e9 : BoxN W2 W1.heap.size 234 [.string (RS B.1.1), .string (RS B.1.2), .string (RS B.2)] := by rw [hW2]; exact BoxN.new _ _ _ _ rfl
   rw [<- hW2];clear hW2 k0 k1 k2 hbx hix;have g8 := e8.below hb2 e8.lt;have hbr2 : Below wr.heap.size wr W2 := hb1.trans (hb2.mono hb1.size);have hbW2 : Below w.heap.size w W2 := hbW.trans (hbr2.mono hbW.size);have x0 := g8.cell 2 rfl;have y0 := e9.cell 2 rfl;have hz8 := g8.lt;have hz9 := e9.lt;have hgd : Good W2.drew := (hg.below hbW2).drewN 1;clear hb1 hb2 e8;go_region_held3 (fun w' => w'.cell? ⟨wr.heap.size, 2, none⟩ = some (.string (RS A.2)) /\ w'.cell? ⟨W1.heap.size, 2, none⟩ = some (.string (RS B.2)))
    (first | exact ⟨x0, y0⟩ | exact ⟨p_1_0, p_1_1⟩ | exact ⟨p_2_0, p_2_1⟩)
    (first
    | (go_at_call 32; refine (HY.out _ pg1).mono ?_; rintro e pw2 ⟨_, rfl, rfl, pb2⟩
       have p_2_0 := zct pb2 p_1_0;have p_2_1 := zct pb2 p_1_1;have ps2 := pb2.size;have pg2 := pg1.below pb2)
    | (go_at_call 32; refine (HX.out _ hgd).mono ?_; rintro e pw1 ⟨_, rfl, rfl, pb1⟩
       have p_1_0 := zct pb1 x0;have p_1_1 := zct pb1 y0;have ps1 : W2.heap.size <= pw1.heap.size := pb1.size;have pg1 := hgd.below pb1))
   have pB : Below W2.heap.size W2 pw2 := zbt (zbt (below_drewN W2 1) pb1) pb2;have hown2 := World.ownsRow.belowAll hown (hbr2.trans (pB.mono hbr2.size));have hbr3 : Below wr.heap.size wr pw2 := hbr2.trans (pB.mono hbr2.size);have h8 := g8.below pB g8.lt;have h9 := e9.below pB e9.lt;have hz2 := pB.size;clear pB pb1 pb2 ps1 ps2 pg1 pg2 p_1_0 p_1_1 p_2_0 p_2_1 x0 y0 hown hgd hbr2 hbW2 g8 e9 e2r;go_upto_region 9 with fail;refine (HGX.out pw2).mono ?_;rintro e w3 ⟨_, rfl, rfl, nd, rfl⟩;go_upto_if 35 with fail;obtain ⟨w3, hw3⟩ : ∃ X, X = pw2.drewN nd := ⟨_, rfl⟩;have hd3 : Below pw2.heap.size pw2 w3 := by rw [hw3]; exact below_drewN pw2 nd
   have hz3 : pw2.heap.size = w3.heap.size := by rw [hw3]; rfl
   rw [<- hw3];clear hw3;have hzW1 : wr.heap.size <= W1.heap.size := HZ1.out;have h83 := h8.below hd3 h8.lt;have h93 := h9.below hd3 h9.lt;have hown3 := World.ownsRow.belowAll hown2 hd3;have hbr3' : Below wr.heap.size wr w3 := hbr3.trans (hd3.mono hbr3.size);have HOB : Hid (∀ j, (Value.slice p5 n c5).ownBlock = some j -> W.heap.size <= j /\ j < wr.heap.size) := HOB0;generalize cutTo c0 c1 c2 z i = L at *;obtain ⟨L1, hL1⟩ : ∃ l, l = L ++ (if 0 <= sx then [A] else []) := ⟨_, rfl⟩;have HL1 := hid hL1;clear hL1 h8 h9 hown2 hbr3 hd3;go_cut [5, 6] (fun s5 s6 wx => ∃ (n' : Nat) (b' : Bool), s6 = .bool b' /\ Hid (b' = (b || decide (0 < sx))) /\ n' <= n + 1 /\ Hid (L1.length = n') /\ wx.ownsRow W.heap.size 234 3 s5 n' (cellsC L1) /\ Below W.heap.size W wx /\ w3.heap.size <= wx.heap.size /\ BoxN wx wr.heap.size 234 [.string (RS A.1.1), .string (RS A.1.2), .string (RS A.2)] /\ BoxN wx W1.heap.size 234 [.string (RS B.1.1), .string (RS B.1.2), .string (RS B.2)])
   case first =>
    rcases Int.lt_or_le sx 0 with hs | hs
    ·have HE : Hid (L1 = L) := by unfold Hid; rw [HL1.out, if_neg (by omega), List.append_nil]
     have HBB : Hid (b = (b || decide (0 < sx))) := by unfold Hid; rw [decide_eq_false (by omega), Bool.or_false]
     go_wp2_with fail;go_meet;exact ⟨n, b, rfl, HBB, by omega, by unfold Hid; rw [HE.out]; exact HLN.out, by rw [HE.out]; exact hown3, hbr.trans (hbr3'.mono hbr.size), Nat.le_refl _, h83, h93⟩
    ·have HE : Hid (L1 = L ++ [A]) := by unfold Hid; rw [HL1.out, if_pos hs]
     have HLE : Hid (L1.length = n + 1) := by unfold Hid; rw [HE.out, List.length_append, HLN.out]; rfl
     have HBE : Hid (cellsC L1 = cellsC L ++ [.string (RS A.1.1), .string (RS A.1.2), .string (RS A.2)]) := by unfold Hid; rw [HE.out, cellsC_snoc]
     obtain ⟨q, hq⟩ : ∃ q, q = decide (0 < sx) := ⟨_, rfl⟩;have a0 := h83.cell 0 rfl;have a1 := h83.cell 1 rfl;have a2 := h83.cell 2 rfl;have t1 : ((RS x).toList == [48]) = !q := by
      rw [hq, Bool.eq_iff_iff, beq_iff_eq, HZT.out];clear hq;rcases Int.lt_or_le 0 sx with h1 | h1
      ·rw [decide_eq_true h1]; simp; omega
      ·rw [decide_eq_false (by omega)]; simp; omega
     have HQ := hid hq;have hn4 : n <= 4 := by omega
     have hzB : W.heap.size <= w3.heap.size := by have := h83.lt; omega
     have hl8 := h83.lt;have hl9 := h93.lt;have hw1 : wr.heap.size <= W1.heap.size := by omega
     clear hq
     go_wp2_with (at_builtin; refine wpList_append_own _ rfl _ _ 240 rfl W.heap.size 234 i0 (.agg #[.string ⟨#[]⟩, .string ⟨#[]⟩, .string ⟨#[]⟩]) 3 48 Tryz.underlying240 hi hzz0 hzz1 hzz2 rfl (by decide) _ _ _ rfl (hown3.alloc _) ⟨w3.heap.size, 0, none⟩ 1 1 [.string (RS A.1.1), .string (RS A.1.2), .string (RS A.2)] rfl rfl (cell_three _ _ _ _ _) (three_str _ _ _) (by unfold maxLen; omega) (by omega) (by simp; omega) ?_
                  intro v4 w4 hown4 hgrow4 _;have hzw4 := hgrow4.size;have hbr4 : Below W.heap.size W w4 := ((hbr.trans (hbr3'.mono hbr.size)).alloc hzB _).grown hgrow4 (by simp; omega) (fun j hj => by have := (hown3.lt j hj).1; omega);have h84 := (hgrow4.block wr.heap.size (by simp; omega) (fun e => by have := (HOB.out _ e.symm).2; omega)).trans (h83.below ((Below.refl _ _).alloc (Nat.le_refl _) _) hl8);have h94 := (hgrow4.block W1.heap.size (by simp; omega) (fun e => by have := (HOB.out _ e.symm).2; omega)).trans (h93.below ((Below.refl _ _).alloc (Nat.le_refl _) _) hl9);clear hgrow4)
     all_goals
      have hbF4 : w3.heap.size <= w4.heap.size := by simp at hzw4; omega
      rw [<- HBE.out] at hown4;go_wp2_with fail;go_meet
      first
           | exact ⟨n + 1, q, rfl, (by unfold Hid; first | rw [HQ.out, (‹b = false› : b = false)]; rfl | rw [HQ.out, Bool.eq_false_iff.2 (‹¬ b = true› : ¬ b = true)]; rfl), Nat.le_refl _, HLE, hown4, hbr4, hbF4, h84, h94⟩
           | exact ⟨n + 1, true, rfl, (by unfold Hid; rw [(‹b = true› : b = true)]; rfl), Nat.le_refl _, HLE, hown4, hbr4, hbF4, h84, h94⟩
   case rest =>
    obtain ⟨n1, b1, rfl, HB1, hn1, HLE1, hownc, hbrc, hzc, h8c, h9c⟩ := hcut;obtain ⟨pc, cc, rfl⟩ := ownsRow_shape hownc;obtain ⟨cr, hcr⟩ : ∃ cr, cr = decide (sx * sy < 0) := ⟨_, rfl⟩;have HCR := hid hcr;have hbWc : Below w.heap.size w wc := hB.trans (hbrc.mono hB.size);clear hown3 h83 h93 HOB hbr3' hbr HZT e2 hcr;go_upto_region 11 with fail;go_cut [50] (fun s50 wx => s50 = .bool cr /\ ∃ nd, wx = wc.drewN nd)
    case first =>
     clear HL1 hownc hbrc hzc h8c h9c hbWc HB1 hn1 HLE1 HC1 HCK HNE HDV HDS HQZ HTX HTY HX HY HSA HSB HST HSS HLN HSM hzW hzr hzW1 hz2 hz3 HZ1 hg hi hzz0 hzz1 hzz2 HZ hB;go_wp2_with fail;refine (HGX.out wc).mono ?_;rintro e w5 ⟨_, rfl, rfl, nd5, rfl⟩;go_wp2_with fail;refine (HGY.out _).mono ?_;rintro e w6 ⟨_, rfl, rfl, nd6, rfl⟩;rcases HSX3.out with rfl | rfl | rfl <;> rcases HSY3.out with rfl | rfl | rfl
     all_goals
      go_wp2_with fail;go_meet;exact ⟨by rw [HCR.out]; rfl, _, rfl⟩
    case rest =>
     obtain ⟨rfl, nd6, rfl⟩ := hcut;obtain ⟨w6, hw6⟩ : ∃ X, X = wc.drewN nd6 := ⟨_, rfl⟩;have hd6 : Below wc.heap.size wc w6 := by rw [hw6]; exact below_drewN wc nd6
     have hz6 : wc.heap.size = w6.heap.size := by rw [hw6]; rfl
     rw [<- hw6];clear hw6;have hown6 := World.ownsRow.belowAll hownc hd6;have hbr6 : Below W.heap.size W w6 := hbrc.trans (hd6.mono hbrc.size);have hbW6 : Below w.heap.size w w6 := hbWc.trans (hd6.mono hbWc.size);have h86 := h8c.below hd6 h8c.lt;have h96 := h9c.below hd6 h9c.lt;clear hownc hbrc hbWc h8c h9c hd6;cases cr
     ·have HEL : Hid (cutTo c0 c1 c2 z (i + 1) = L1) := by
           unfold Hid;have hn : ¬ sx * sy < 0 := fun e => by have := HCR.out; rw [decide_eq_true e] at this; cases this
           rw [HST.out, HC1.out, HL1.out, if_neg hn, List.append_nil]
      have HLN' : Hid ((cutTo c0 c1 c2 z (i + 1)).length = n1) := by unfold Hid; rw [HEL.out, HLE1.out]
      have HSM' : Hid (b1 = someTo c0 c1 c2 z (i + 1)) := by unfold Hid; rw [HSS.out, HB1.out]
      rw [<- HEL.out] at hown6;go_wp2_with fail;go_roundw
      case rel => exact ⟨i + 1, n1, b1, by go_num, rfl, by omega, by omega, HLN', HSM', hown6, hbr6⟩
      case measure => simp [RowKit.intOf]; omega
     ·have hne := HNE.out (of_decide_eq_true HCR.out.symm)
      go_wp2_with fail;refine (HDS.out w6 (hg.below hbW6)).mono ?_;rintro e w7 ⟨_, rfl, rfl, hb7⟩;go_wp2_with fail;have hbW7 := hbW6.trans (hb7.mono hbW6.size);refine (HDV.out hne w7 (hg.below hbW7)).mono ?_;rintro e w8 ⟨_, rfl, rfl, hb8⟩;have hbb : Below w6.heap.size w6 w8 := hb7.trans (hb8.mono hb7.size);have hbW8 : Below w.heap.size w w8 := hbW6.trans (hbb.mono hbW6.size);have h88 := h86.below hbb h86.lt;have h98 := h96.below hbb h96.lt;have hown8 := World.ownsRow.belowAll hown6 hbb;have hbr8 : Below W.heap.size W w8 := hbr6.trans (hbb.mono hbr6.size);clear hb7 hb8 hbW7 h86 h96 hown6 hbr6;go_upto_region 13 with fail
      have HEL : Hid (cutTo c0 c1 c2 z (i + 1) = L1 ++ [((towQ A.1.1 B.1.1 (x / (x - y)), towQ A.1.2 B.1.2 (x / (x - y))), z)]) := by
           unfold Hid;rw [HST.out, HC1.out, HL1.out, if_pos (of_decide_eq_true HCR.out.symm), HCK.out, List.append_assoc]
      have HLE8 : Hid ((cutTo c0 c1 c2 z (i + 1)).length = n1 + 1) := by unfold Hid; rw [HEL.out, List.length_append, HLE1.out]; rfl
      have HBE8 : Hid (cellsC (cutTo c0 c1 c2 z (i + 1)) = cellsC L1 ++ [.string (RS (towQ A.1.1 B.1.1 (x / (x - y)))), .string (RS (towQ A.1.2 B.1.2 (x / (x - y)))), .string (RS z)]) := by unfold Hid; rw [HEL.out, cellsC_snoc]
      have HSM' : Hid (b1 = someTo c0 c1 c2 z (i + 1)) := by unfold Hid; rw [HSS.out, HB1.out]
      have HTX' := hid fun w hg => HTX.out hne w hg;have HTY' := hid fun w hg => HTY.out hne w hg;clear HDV HDS HQZ HTX HTY HC1 HCK HST HSS HB1 HL1 HNE HCR HX HY HGX HGY HSX3 HSY3 HSA HSB HEL;generalize RS (towQ A.1.1 B.1.1 (x / (x - y))) = px at *;generalize RS (towQ A.1.2 B.1.2 (x / (x - y))) = py at *;generalize RS (x / (x - y)) = qs at *;clear hne;have hl8 := h88.lt;have hl9 := h98.lt;go_cut [14] (fun s14 wx => ∃ b14 : Nat, s14 = .pointer (some ⟨b14, 0, none⟩) /\ w8.heap.size <= b14 /\ BoxN wx b14 63 [.string px, .string py] /\ Below w8.heap.size w8 wx)
      case first =>
           have HF : Hid (∀ w', Below w8.heap.size w8 w' -> w'.cell? ⟨wr.heap.size, 0, none⟩ = some (.string (RS A.1.1)) /\ w'.cell? ⟨wr.heap.size, 1, none⟩ = some (.string (RS A.1.2)) /\ w'.cell? ⟨W1.heap.size, 0, none⟩ = some (.string (RS B.1.1)) /\ w'.cell? ⟨W1.heap.size, 1, none⟩ = some (.string (RS B.1.2))) := fun w' hb => by
            have y1 := h88.below hb h88.lt;have y2 := h98.below hb h98.lt;exact ⟨y1.cell 0 rfl, y1.cell 1 rfl, y2.cell 0 rfl, y2.cell 1 rfl⟩
           have HGD : Hid (∀ w', Below w8.heap.size w8 w' -> Good w') := fun w' hb => (hg.below hbW8).below hb;have b0 : Below w8.heap.size w8 w8.drew := below_drewN w8 1;have hZZ : ∀ w' : World, BoxN (w'.alloc (.cells #[.string ⟨#[]⟩, .string ⟨#[]⟩] 63)) w'.heap.size 63 [.string ⟨#[]⟩, .string ⟨#[]⟩] := fun w' => BoxN.new _ _ _ _ rfl;have hAA : ∀ (w' : World) (o : Obj), Below w8.heap.size w8 w' -> Below w8.heap.size w8 (w'.alloc o) := fun w' o hb => hb.alloc hb.size _;have HSC : Hid (∀ (w' : World) (b i : Nat) (v : Value), w8.heap.size <= b -> Below w8.heap.size w8 w' -> Below w8.heap.size w8 (w'.setCell ⟨b, i, none⟩ v)) := fun w' b i v hb h => h.setCell (p := ⟨b, i, none⟩) hb v;have HTR : Hid (∀ w' w'', Below w8.heap.size w8 w' -> Below w'.heap.size w' w'' -> Below w8.heap.size w8 w'') := fun w' w'' h1 h2 => h1.trans (h2.mono h1.size);have HZZ := hid hZZ;have HAA := hid hAA;have h0a := (hAA _ (.cells #[.string ⟨#[]⟩, .string ⟨#[]⟩] 63) (Below.refl _ w8)).drew;have g0 := HGD.out _ b0;have g0a := HGD.out _ h0a;clear hZZ hAA hown8 hbr8 hbW8 h88 h98 hbb;go_region_held3 (fun w' => w'.cell? ⟨wr.heap.size, 0, none⟩ = some (.string (RS A.1.1)) /\ w'.cell? ⟨wr.heap.size, 1, none⟩ = some (.string (RS A.1.2)) /\ w'.cell? ⟨W1.heap.size, 0, none⟩ = some (.string (RS B.1.1)) /\ w'.cell? ⟨W1.heap.size, 1, none⟩ = some (.string (RS B.1.2)))
            ((refine HF.out _ ?_; first | with_reducible assumption | exact (HAA.out _ _ (by with_reducible assumption)).drew | exact HAA.out _ _ (by with_reducible assumption) | (iterate 2 (refine HSC.out _ _ _ _ (by omega) ?_)); with_reducible assumption))
            (first
                  | (go_at_call 213; (first | refine (HTY'.out _ g4).mono ?_ | refine (HTY'.out _ g4a).mono ?_); rintro e v5 ⟨_, rfl, rfl, hb5⟩
                     have h5 : Below w8.heap.size w8 v5 := by first | exact HTR.out _ _ h4 hb5 | exact HTR.out _ _ h4a hb5
                     have hs5 := h5.size;try have bz5 := bz4.below hb5 bz4.lt
                     try have bz5 := (HZZ.out v4).below hb5 (by simp)
                     try have q0 := bz5.cell 0 rfl
                     try have q1 := bz5.cell 1 rfl
                     try have e0 := bz5.frozen 0
                     try have e1 := bz5.frozen 1)
                  | (go_at_call 213; (first | refine (HTX'.out _ g0).mono ?_ | refine (HTX'.out _ g0a).mono ?_); rintro e v4 ⟨_, rfl, rfl, hb4⟩
                     have h4 : Below w8.heap.size w8 v4 := by first | exact HTR.out _ _ b0 hb4 | exact HTR.out _ _ h0a hb4
                     have h4a := HAA.out _ (.cells #[.string ⟨#[]⟩, .string ⟨#[]⟩] 63) h4;have g4 := HGD.out _ h4;have g4a := HGD.out _ h4a;have hs4 := h4.size;try have bz4 := (HZZ.out w8).drew.below hb4 (by simp)))
           ·go_wp2_with fail
            go_meet;exact ⟨_, rfl, hs5, BoxN.new _ _ _ _ rfl, HAA.out _ _ h5⟩
           ·go_wp2_with fail
            go_meet;exact ⟨_, rfl, hs4, (bz5.set 0 _).set 1 _, HSC.out _ _ _ _ hs4 (HSC.out _ _ _ _ hs4 h5)⟩
           ·go_wp2_with fail
            go_meet;exact ⟨_, rfl, Nat.le_refl _, (bz5.set 0 _).set 1 _, HSC.out _ _ _ _ (Nat.le_refl _) (HSC.out _ _ _ _ (Nat.le_refl _) h5)⟩
      case rest =>
           obtain ⟨b14, rfl, hb14, x14, hbx⟩ := hcut;have hownx := World.ownsRow.belowAll hown8 hbx;have hbrx : Below W.heap.size W wc := hbr8.trans (hbx.mono hbr8.size);have hzx := hbrx.size;have k0 := x14.cell 0 rfl;have k1 := x14.cell 1 rfl;have hn4 : n1 <= 6 := by omega
           clear hbx hbr8 hown8 h88 h98 x14 hbb
           go_wp2_with (at_builtin; refine wpList_append_own _ rfl _ _ 240 rfl W.heap.size 234 i0 (.agg #[.string ⟨#[]⟩, .string ⟨#[]⟩, .string ⟨#[]⟩]) 3 48 Tryz.underlying240 hi hzz0 hzz1 hzz2 rfl (by decide) _ _ _ rfl (hownx.alloc _) ⟨wc.heap.size, 0, none⟩ 1 1 [.string px, .string py, .string (RS z)] rfl rfl (cell_three _ _ _ _ _) (three_str _ _ _) (by unfold maxLen; omega) (by omega) (by simp; omega) ?_
                        intro v9 w9 hown9 hgrow9 _;have hzw9 := hgrow9.size;have hbr9 : Below W.heap.size W w9 := (hbrx.alloc hzx _).grown hgrow9 (by simp; omega) (fun j hj => by have := (hownx.lt j hj).1; omega);clear hgrow9)
           rw [<- HBE8.out] at hown9;go_wp2_with fail;go_roundw
           case rel => exact ⟨i + 1, n1 + 1, b1, by go_num, rfl, by omega, by omega, HLE8, HSM', hown9, hbr9⟩
           case measure => simp [RowKit.intOf]; omega
  ·obtain rfl : i = 3 := by omega
   have hbW : Below w.heap.size w wr := hB.trans (hbr.mono hB.size);cases b
   ·have HE : Hid (cutL c0 c1 c2 z = []) := by unfold Hid cutL; rw [<- HSM.out]; rfl
    go_wp2_with fail;go_ret;exact ⟨_, rfl, ⟨by rw [HE.out]; exact World.ownsRow_nil _ _ _ _, fun _ => rfl⟩, hbW⟩
   ·have HE : Hid (cutL c0 c1 c2 z = cutTo c0 c1 c2 z 3) := by unfold Hid cutL; rw [<- HSM.out]; rfl
    have HNE := hid (cutTo_ne c0 c1 c2 z 3 HSM.out.symm);have hrd : wr.ownsRow w.heap.size 234 3 (.slice p5 n c5) (cutTo c0 c1 c2 z 3).length (cellsC (cutTo c0 c1 c2 z 3)) := by rw [HLN.out]; exact ownsRow_base hown (by omega)
    go_wp2_with fail;go_ret;exact ⟨_, rfl, ⟨by rw [HE.out]; exact hrd, fun e => absurd (HE.out.symm.trans e) HNE.out⟩, hbW⟩
def PartV (w : World) (B : Nat) (v : Value) (l : List Cor) : Prop := w.ownsRow B 234 3 v l.length (cellsC l) /\ (l = [] -> v = .slice none 0 0)
theorem part_any (P : List PtQ) (F : List Rat) (tr : Tri) (z : Rat) (k m : Nat) (hk : 0 < k) (hkm : k + m <= 300) (hs : ∀ x ∈ idxOf tr, SzP k (ptI P x) /\ Sz k (hI F x)) (hz : Sz m z) (w : World) (hg : Good w) :
 Calls Tryz.prog 176 #[.agg #[.string (RS (ptI P tr.1).1), .string (RS (ptI P tr.1).2), .string (RS (hI F tr.1)), .string (RS (ptI P tr.2.1).1), .string (RS (ptI P tr.2.1).2), .string (RS (hI F tr.2.1)), .string (RS (ptI P tr.2.2).1), .string (RS (ptI P tr.2.2).2), .string (RS (hI F tr.2.2))], .string (RS z)] w (Ret (fun r w' => PartV w' w.heap.size r (partT P F z tr)) w) := by
 have s0 := hs tr.1 (by simp [idxOf]);have s1 := hs tr.2.1 (by simp [idxOf]);have s2 := hs tr.2.2 (by simp [idxOf]);exact fcut_any (corP P F tr.1) (corP P F tr.2.1) (corP P F tr.2.2) z (k + m) (by omega) (by omega) ⟨⟨s0.1.1.mono (by omega), s0.1.2.mono (by omega)⟩, s0.2.mono (by omega)⟩ ⟨⟨s1.1.1.mono (by omega), s1.1.2.mono (by omega)⟩, s1.2.mono (by omega)⟩ ⟨⟨s2.1.1.mono (by omega), s2.1.2.mono (by omega)⟩, s2.2.mono (by omega)⟩ (hz.mono (by omega)) w hg
end Go.Proofs.YtgdpoankaojklaaGreatDoor
