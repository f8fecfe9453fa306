import Derived.Test.YtegiemcnfbchoaaGreatDoorPW2
/- The walks over field.on, field.number, field.Value. Plain Level lines The walk over mesh.Neighbours. -/
set_option maxHeartbeats 4000000
set_option maxRecDepth 100000
namespace Go.Proofs.YtegiemcnfbchoaaGreatDoor
open Go.RowKit Go.Lib
def onQ (P : List PtQ) (F : List Rat) (tr : Tri) (p : PtQ) : Rat := hI F tr.1 + (sa0 P F tr).1 * (p.1 - (ptI P tr.1).1) + (sa0 P F tr).2 * (p.2 - (ptI P tr.1).2)
theorem on_any (w : World) (vp vt vf : Value) (P : List PtQ) (T : List Tri) (k : Nat) (F : List Rat) (h : FieldIn w vp vt vf P T k F) (t : Nat) (tz : Int) (htz : tz = (t : Int)) (htl : t < T.length) (tr : Tri) (htr : tr = T[t]) (p : PtQ) (m : Nat) (hm0 : 0 < m) (hm : m <= 1000) (hs : SzP m (sa0 P F tr)) (hp : SzP m p) (hkm : k <= m) (hg : Good w) :
 Calls Tryz.prog 36 #[.agg #[vp, vt], vf, .int .i64 tz, .agg #[.string (RS p.1), .string (RS p.2)]] w (Ret (fun r _ => r = .string (RS (onQ P F tr p))) w) := by
 have hmem : tr ∈ T := by rw [htr]; exact List.getElem_mem htl
 obtain ⟨g0, g1⟩ := h.m.idx tr hmem tr.1 (by simp [idxOf]);obtain ⟨q, hq⟩ : ∃ q : Nat, tr.1 = (q : Int) := ⟨tr.1.toNat, by omega⟩;have hfl := h.fl;have hqF : q < F.length := by omega
 have hqP : q < P.length := by omega
 have HH := hid h;have HSL : Hid (∀ (w : World), FieldIn w vp vt vf P T k F -> Good w -> Calls Tryz.prog 73 #[.agg #[vp, vt], vf, .int .i64 tz] w (Ret (fun r _ => r = .agg #[.string (RS (sa0 P F tr).1), .string (RS (sa0 P F tr).2)]) w)) := fun w h hg =>
  slope_any w _ _ _ P T k F h.p h.t h.m.toMeshIn h.m.klim2 h.f h.fs h.fl t tz htz htl tr htr (h.m.turns tr hmem) hg
 obtain ⟨bt, ot, ct, rfl, hbt, e0, _, _⟩ := h.tri t htl;obtain ⟨bf, of, cf, rfl, hbf, ef⟩ := h.hgt q hqF;have hpp := h.p;obtain ⟨pp, cp, rfl, _, _, hpr⟩ := hpp.open;obtain ⟨bp, op, rfl, hbp, hpc⟩ := hpr (by intro e; have h := sPl P; rw [e] at h; simp at h; omega);obtain ⟨ex, ey⟩ := hpc q (by rw [sPl]; exact hqP);rw [sPg P q hqP] at ex ey;dsimp only at ex ey;rw [<- htr, hq] at e0;have zo := h.m.sz _ (List.getElem_mem hqP);have zf := h.fs _ (List.getElem_mem hqF);unfold onQ;rw [hq, hI_nat F q hqF, pIn P q hqP];rw [hI_nat F q hqF] at ef;rw [sPl] at *;generalize sa0 P F tr = S at *;generalize P[q] = o at *;generalize F[q] = f at *;have d1 : Sz (2 * m + 1) (p.1 - o.1) := (hp.1.sub (zo.1.mono hkm)).mono (by omega);have d2 : Sz (2 * m + 1) (p.2 - o.2) := (hp.2.sub (zo.2.mono hkm)).mono (by omega);have m1 : Sz (3 * m + 1) (S.1 * (p.1 - o.1)) := (hs.1.mul d1).mono (by omega);have m2 : Sz (3 * m + 1) (S.2 * (p.2 - o.2)) := (hs.2.mul d2).mono (by omega);have HD1 := hid fun w hg => rSa p.1 o.1 m hm0 (by omega) hp.1 (zo.1.mono hkm) w hg
 have HD2 := hid fun w hg => rSa p.2 o.2 m hm0 (by omega) hp.2 (zo.2.mono hkm) w hg
 have HM1 := hid fun w hg => rMa S.1 (p.1 - o.1) (2 * m + 1) (by omega) (by omega) (hs.1.mono (by omega)) d1 w hg
 have HM2 := hid fun w hg => rMa S.2 (p.2 - o.2) (2 * m + 1) (by omega) (by omega) (hs.2.mono (by omega)) d2 w hg
 have HSUM : Hid (∀ (v : Value) (w : World), RdQ w v [f, S.1 * (p.1 - o.1), S.2 * (p.2 - o.2)] -> Good w -> _) := fun v w hr hg => ratSum_any [f, S.1 * (p.1 - o.1), S.2 * (p.2 - o.2)] (3 * m + 1) (by omega) (by simp; omega) (by
  intro q hq;simp only [List.mem_cons, List.not_mem_nil, or_false] at hq;rcases hq with rfl | rfl | rfl
  ·exact zf.mono (by omega)
  ·exact m1
  ·exact m2) v w hr hg
 have hfold : [f, S.1 * (p.1 - o.1), S.2 * (p.2 - o.2)].foldl (·+ ·) 0 = f + S.1 * (p.1 - o.1) + S.2 * (p.2 - o.2) := by
  simp only [List.foldl_cons, List.foldl_nil];grind
 rw [hfold] at HSUM;generalize f + S.1 * (p.1 - o.1) + S.2 * (p.2 - o.2) = res at *;generalize S.1 * (p.1 - o.1) = x1 at *;generalize S.2 * (p.2 - o.2) = x2 at *;generalize p.1 - o.1 = y1 at *;generalize p.2 - o.2 = y2 at *;have ht2 : (t : Int) < (T.length : Int) := by omega
 have hq1 : (q : Int) < (P.length : Int) := by omega
 have hq2 : (q : Int) < (F.length : Int) := by omega
 have i0 := idx_T0;subst htz;clear h htr hmem hpp hpr hpc hs hp zo zf d1 d2 m1 m2 hfold g0 g1 hq hqF hqP hfl;go_enter Tryz.func36, Tryz.ntmps36;go_wp2_with fail;obtain ⟨W, hW⟩ : ∃ W, W = (w.alloc (.cells #[.slice (some ⟨bp, op, none⟩) P.length cp, .slice (some ⟨bt, ot, none⟩) T.length ct] 38)).alloc (.cells #[.string (RS p.1), .string (RS p.2)] 33) := ⟨_, rfl⟩;have hB : Below w.heap.size w W := by rw [hW]; exact zal2 _ _ _
 have b7 : BoxN W (w.heap.size + 1) 33 [.string (RS p.1), .string (RS p.2)] := by rw [hW]; exact BoxN.new _ _ _ _ (by simp)
 have b4 : BoxN W w.heap.size 38 [.slice (some ⟨bp, op, none⟩) P.length cp, .slice (some ⟨bt, ot, none⟩) T.length ct] := by
  rw [hW];have h1 := (BoxN.new w #[.slice (some ⟨bp, op, none⟩) P.length cp, .slice (some ⟨bt, ot, none⟩) T.length ct] 38 _ rfl);exact h1.below (zal _ _) h1.lt
 rw [<- hW];clear hW;refine (HSL.out W (HH.out.below hB) (hg.below hB)).mono ?_;rintro e w1 ⟨_, rfl, rfl, hb1⟩;have hB1 := hB.trans (hb1.mono hB.size);have b71 := b7.below hb1 b7.lt;have b41 := b4.below hb1 b4.lt;clear hb1 hB b7 b4;go_upto_region 2 with fail;obtain ⟨W2, hW2⟩ : ∃ W, W = w1.alloc (.cells #[.string (RS S.1), .string (RS S.2)] 33) := ⟨_, rfl⟩;have hb2 : Below w1.heap.size w1 W2 := by rw [hW2]; exact zal _ _
 have b9 : BoxN W2 w1.heap.size 33 [.string (RS S.1), .string (RS S.2)] := by rw [hW2]; exact BoxN.new _ _ _ _ rfl
 rw [<- hW2];clear hW2;have hB2 := hB1.trans (hb2.mono hB1.size);have b72 := b71.below hb2 b71.lt;have b42 := b41.below hb2 b41.lt;clear hb2 hB1 b71 b41;have x0 := b42.cell 0 rfl;have x1' := b42.cell 1 rfl;have k0 := zcq hB2 hbt e0;have k1 := zcq hB2 hbp ex;have k2 := zcq hB2 hbp ey;go_upto_region 4 with fail;obtain ⟨W3, hW3⟩ : ∃ W, W = W2.alloc (.cells #[.string (RS o.1), .string (RS o.2)] 33) := ⟨_, rfl⟩;have hb3 : Below W2.heap.size W2 W3 := by rw [hW3]; exact zal _ _
 have b11 : BoxN W3 W2.heap.size 33 [.string (RS o.1), .string (RS o.2)] := by rw [hW3]; exact BoxN.new _ _ _ _ rfl
 rw [<- hW3];clear hW3;have hB3 := hB2.trans (hb3.mono hB2.size);have b73 := b72.below hb3 b72.lt;have b93 := b9.below hb3 b9.lt;clear hb3 hB2 b72 b9 b42 x0 x1' k0 k1 k2 e0 ex ey;have kf := zcq hB3 hbf ef;have u0 := b93.cell 0 rfl;have u1 := b93.cell 1 rfl;have v0 := b73.cell 0 rfl;have v1 := b73.cell 1 rfl;have w0 := b11.cell 0 rfl;have w1' := b11.cell 1 rfl;have hz1 := b93.lt;have hz2 := b73.lt;have hz3 := b11.lt;have hz4 := hB3.size;have hgd : Good W3.drew := (hg.below hB3).drewN 1;clear ef;go_region_held3 (fun w' => w'.cell? ⟨bf, of + q, none⟩ = some (.string (RS f)) /\ w'.cell? ⟨w1.heap.size, 0, none⟩ = some (.string (RS S.1)) /\ w'.cell? ⟨w.heap.size + 1, 0, none⟩ = some (.string (RS p.1)) /\ w'.cell? ⟨W2.heap.size, 0, none⟩ = some (.string (RS o.1)) /\ w'.cell? ⟨w1.heap.size, 1, none⟩ = some (.string (RS S.2)) /\ w'.cell? ⟨w.heap.size + 1, 1, none⟩ = some (.string (RS p.2)) /\ w'.cell? ⟨W2.heap.size, 1, none⟩ = some (.string (RS o.2)))
  (first | with_reducible exact ⟨kf, u0, v0, w0, u1, v1, w1'⟩ | with_reducible exact ⟨r_1_0, r_1_1, r_1_2, r_1_3, r_1_4, r_1_5, r_1_6⟩ | with_reducible exact ⟨r_2_0, r_2_1, r_2_2, r_2_3, r_2_4, r_2_5, r_2_6⟩ | with_reducible exact ⟨r_3_0, r_3_1, r_3_2, r_3_3, r_3_4, r_3_5, r_3_6⟩ | with_reducible exact ⟨r_4_0, r_4_1, r_4_2, r_4_3, r_4_4, r_4_5, r_4_6⟩ | with_reducible exact ⟨(cal _ r_4_0), (cal _ r_4_1), (cal _ r_4_2), (cal _ r_4_3), (cal _ r_4_4), (cal _ r_4_5), (cal _ r_4_6)⟩ | with_reducible exact ⟨r_5_0, r_5_1, r_5_2, r_5_3, r_5_4, r_5_5, r_5_6⟩ | exact ⟨kf, u0, v0, w0, u1, v1, w1'⟩ | exact ⟨r_1_0, r_1_1, r_1_2, r_1_3, r_1_4, r_1_5, r_1_6⟩ | exact ⟨r_2_0, r_2_1, r_2_2, r_2_3, r_2_4, r_2_5, r_2_6⟩ | exact ⟨r_3_0, r_3_1, r_3_2, r_3_3, r_3_4, r_3_5, r_3_6⟩ | exact ⟨r_4_0, r_4_1, r_4_2, r_4_3, r_4_4, r_4_5, r_4_6⟩ | exact ⟨(cal _ r_4_0), (cal _ r_4_1), (cal _ r_4_2), (cal _ r_4_3), (cal _ r_4_4), (cal _ r_4_5), (cal _ r_4_6)⟩ | exact ⟨r_5_0, r_5_1, r_5_2, r_5_3, r_5_4, r_5_5, r_5_6⟩)
  (first
  | (go_at_call 80; refine (HSUM.out _ _ (RdQ.fresh rw4 [f, x1, x2] _ _ rfl (by simp) 3 rfl _ rfl) (rg4.alloc _)).mono ?_; rintro e rw5 ⟨_, rfl, rfl, rb5_⟩
     have rb5 : Below rw4.heap.size rw4 rw5 := ((Below.refl _ _).alloc (Nat.le_refl _) _).trans (rb5_.mono (by simp));have r_5_0 := zct rb5 r_4_0;have r_5_1 := zct rb5 r_4_1;have r_5_2 := zct rb5 r_4_2;have r_5_3 := zct rb5 r_4_3;have r_5_4 := zct rb5 r_4_4;have r_5_5 := zct rb5 r_4_5;have r_5_6 := zct rb5 r_4_6;have rs5 := rb5.size;have rg5 := rg4.below rb5)
  | (go_at_call 79; refine (HM2.out _ rg3).mono ?_; rintro e rw4 ⟨_, rfl, rfl, rb4⟩
     have r_4_0 := zct rb4 r_3_0;have r_4_1 := zct rb4 r_3_1;have r_4_2 := zct rb4 r_3_2;have r_4_3 := zct rb4 r_3_3;have r_4_4 := zct rb4 r_3_4;have r_4_5 := zct rb4 r_3_5;have r_4_6 := zct rb4 r_3_6;have rs4 := rb4.size;have rg4 := rg3.below rb4)
  | (go_at_call 53; refine (HD2.out _ rg2).mono ?_; rintro e rw3 ⟨_, rfl, rfl, rb3⟩
     have r_3_0 := zct rb3 r_2_0;have r_3_1 := zct rb3 r_2_1;have r_3_2 := zct rb3 r_2_2;have r_3_3 := zct rb3 r_2_3;have r_3_4 := zct rb3 r_2_4;have r_3_5 := zct rb3 r_2_5;have r_3_6 := zct rb3 r_2_6;have rs3 := rb3.size;have rg3 := rg2.below rb3)
  | (go_at_call 79; refine (HM1.out _ rg1).mono ?_; rintro e rw2 ⟨_, rfl, rfl, rb2⟩
     have r_2_0 := zct rb2 r_1_0;have r_2_1 := zct rb2 r_1_1;have r_2_2 := zct rb2 r_1_2;have r_2_3 := zct rb2 r_1_3;have r_2_4 := zct rb2 r_1_4;have r_2_5 := zct rb2 r_1_5;have r_2_6 := zct rb2 r_1_6;have rs2 := rb2.size;have rg2 := rg1.below rb2)
  | (go_at_call 53; refine (HD1.out _ hgd).mono ?_; rintro e rw1 ⟨_, rfl, rfl, rb1⟩
     have r_1_0 := zct rb1 kf;have r_1_1 := zct rb1 u0;have r_1_2 := zct rb1 v0;have r_1_3 := zct rb1 w0;have r_1_4 := zct rb1 u1;have r_1_5 := zct rb1 v1;have r_1_6 := zct rb1 w1';have rs1 : W3.heap.size <= rw1.heap.size := rb1.size;have rg1 := hgd.below rb1))
 have rB : Below W3.heap.size W3 rw5 := zbt (zbt (zbt (zbt (zbt (bdN W3 1) rb1) rb2) rb3) rb4) rb5;go_wp2_with fail;go_ret;exact ⟨_, rfl, rfl, hB3.trans (rB.mono hB3.size)⟩
theorem fnumber_ok (q : Rat) (h : Sz 200 q) (w : World) (hg : Good w) :
 Calls Tryz.prog 50 #[.string (RS q)] w (Ret (fun r _ => r = .tuple #[.string (RS q), .int .i64 0]) w) := by
 have hs := h.size (by omega);have HE : Hid (eNm (rQQ (RS q).data.toList) = 0) := by unfold Hid; rw [Rlt, rightQ_RL h]; rfl
 clear h;go_enter Tryz.func50, Tryz.ntmps50;go_wp2_with fail;refine (checkQ_any (RS q) (by omega) _ hg).mono ?_;rintro e w1 ⟨_, rfl, rfl, hb1⟩;rw [HE.out];go_wp2_with fail;go_ret2;exact ⟨_, rfl, rfl, hb1⟩
theorem value_in (w : World) (vp vt vf : Value) (P : List PtQ) (T : List Tri) (k : Nat) (F : List Rat) (h : FieldIn w vp vt vf P T k F) (p : PtQ) (hpz : SzP 200 p) (t : Nat) (l : List Int) (hl : locN P T p T.length = (t : Int) :: l) (htl : t < T.length) (hs : SzP 200 (sa0 P F T[t])) (hz : Sz 200 (onQ P F T[t] p)) (hg : Good w) :
 Calls Tryz.prog 21 #[.agg #[vp, vt], vf, .agg #[.string (RS p.1), .string (RS p.2)]] w (Ret (fun r _ => r = .tuple #[.string (RS (onQ P F T[t] p)), .int .i64 0]) w) := by
 have HH := hid h;have HLO : Hid (∀ w', Below w.heap.size w w' -> Good w' -> _) := fun w' hb hg' => locate_ok w' vp vt P T k (h.below hb).p (h.below hb).t h.m p hpz hg';rw [hl] at HLO;have HON : Hid (∀ w', Below w.heap.size w w' -> Good w' -> _) := fun w' hb hg' => on_any w' vp vt vf P T k F (h.below hb) t t rfl htl T[t] rfl p 200 (by omega) (by omega) hs hpz h.m.klim2 hg'
 have HNU : Hid (∀ w', Good w' -> _) := fun w' hg' => fnumber_ok (onQ P F T[t] p) hz w' hg';obtain ⟨pp, cp, pt, ct, pf, cf, rfl, rfl, rfl⟩ := h.open;generalize onQ P F T[t] p = res at *;generalize RS res = ress at *;generalize RS p.1 = px at *;generalize RS p.2 = py at *;clear h hl hs hz;go_enter Tryz.func21, Tryz.ntmps21;go_wp2_with fail;obtain ⟨W, hW⟩ : ∃ W, W = ((w.alloc (.cells #[.slice pp P.length cp, .slice pt T.length ct] 38)).alloc (.cells #[.string px, .string py] 33)).alloc (.cells #[.slice pf F.length cf] 41) := ⟨_, rfl⟩;have hB : Below w.heap.size w W := by rw [hW]; exact (((Below.refl _ _).alloc (Nat.le_refl _) _).alloc (by simp) _).alloc (by simp; omega) _
 have bF : BoxN W (w.heap.size + 1 + 1) 41 [.slice pf F.length cf] := by rw [hW]; exact BoxN.new _ _ _ _ (by simp)
 have b5 : BoxN W (w.heap.size + 1) 33 [.string px, .string py] := by
  rw [hW];have h1 := (BoxN.new (w.alloc (.cells #[.slice pp P.length cp, .slice pt T.length ct] 38)) #[.string px, .string py] 33 (w.heap.size + 1) (by simp));exact h1.below (zal _ _) h1.lt
 have b3 : BoxN W w.heap.size 38 [.slice pp P.length cp, .slice pt T.length ct] := by
  rw [hW];have h1 := (BoxN.new w #[.slice pp P.length cp, .slice pt T.length ct] 38 _ rfl);exact h1.below (((Below.refl _ _).alloc (Nat.le_refl _) _).alloc (by simp) _) h1.lt
 rw [<- hW];clear hW;refine (checks_ok (HH.out.below hB) _ (bF.cell 0 rfl) (hg.below hB)).mono ?_;rintro e w1 ⟨_, rfl, rfl, hb1⟩;have hB1 := hB.trans (hb1.mono hB.size);have b51 := b5.below hb1 b5.lt;have b31 := b3.below hb1 b3.lt;have x0 := b31.cell 0 rfl;have x1 := b31.cell 1 rfl;have y0 := b51.cell 0 rfl;have y1 := b51.cell 1 rfl;clear hb1 hB b5 b3 bF;go_wp2_with fail;refine (HLO.out w1 hB1 (hg.below hB1)).mono ?_;rintro e w2 ⟨_, rfl, ⟨vl, rfl, hrd⟩, hb2⟩;have hB2 := hB1.trans (hb2.mono hB1.size);have b52 := b51.below hb2 b51.lt;have b32 := b31.below hb2 b31.lt;obtain ⟨pl, cl, rfl, hlc, -, hlr⟩ := hrd.open;obtain ⟨bl, ol, rfl, hbl, hlcell⟩ := hlr (by simp);have z0 := hlcell 0 (by simp);have hz5 := b52.lt;have hz3 := b32.lt;have hlen : 0 < ((t : Int) :: l).length := by simp
 have hlen2 : ¬ (((t : Int) :: l).length = 0) := by simp
 simp only [List.getElem_cons_zero, Nat.add_zero] at z0;clear x0 x1 y0 y1 hrd hlr hlcell hb2 hB1 b51 b31;have x0 := b32.cell 0 rfl;have x1 := b32.cell 1 rfl;have y0 := b52.cell 0 rfl;have y1 := b52.cell 1 rfl;generalize ((t : Int) :: l).length = nl at *;have hgd : Good w2.drew := (hg.below hB2).drewN 1;have hbd : Below w.heap.size w w2.drew := hB2.trans ((bdN w2 1).mono hB2.size);go_upto_region 9 with fail;go_region_held3 (fun w' => w'.cell? ⟨w.heap.size, 0, none⟩ = some (.slice pp P.length cp) /\ w'.cell? ⟨w.heap.size, 1, none⟩ = some (.slice pt T.length ct) /\ w'.cell? ⟨bl, ol, none⟩ = some (.int .i64 t) /\ w'.cell? ⟨w.heap.size + 1, 0, none⟩ = some (.string px) /\ w'.cell? ⟨w.heap.size + 1, 1, none⟩ = some (.string py))
  (first | exact ⟨x0, x1, z0, y0, y1⟩ | exact ⟨r_1_0, r_1_1, r_1_2, r_1_3, r_1_4⟩ | exact ⟨r_2_0, r_2_1, r_2_2, r_2_3, r_2_4⟩)
  (first
  | (go_at_call 50; refine (HNU.out _ rg1).mono ?_; rintro e rw2 ⟨_, rfl, rfl, rb2⟩
     have r_2_0 := zct rb2 r_1_0;have r_2_1 := zct rb2 r_1_1;have r_2_2 := zct rb2 r_1_2;have r_2_3 := zct rb2 r_1_3;have r_2_4 := zct rb2 r_1_4;have rs2 := rb2.size;have rg2 := rg1.below rb2)
  | (go_at_call 36; refine (HON.out _ hbd hgd).mono ?_; rintro e rw1 ⟨_, rfl, rfl, rb1⟩
     have r_1_0 := zct rb1 x0;have r_1_1 := zct rb1 x1;have r_1_2 := zct rb1 z0;have r_1_3 := zct rb1 y0;have r_1_4 := zct rb1 y1;have rs1 : w2.heap.size <= rw1.heap.size := rb1.size;have rg1 := hgd.below rb1))
 have rB : Below w2.heap.size w2 rw2 := zbt (zbt (bdN w2 1) rb1) rb2;go_wp2_with fail;go_ret2;exact ⟨_, rfl, rfl, hB2.trans (rB.mono hB2.size)⟩
def lonT (P : List PtQ) (F : List Rat) (tr : Tri) (p : PtQ) : Rat :=
 (0 + areaQ p (ptI P tr.2.1) (ptI P tr.2.2) * hI F tr.1 + areaQ p (ptI P tr.2.2) (ptI P tr.1) * hI F tr.2.1 + areaQ p (ptI P tr.1) (ptI P tr.2.1) * hI F tr.2.2) / areaQ (ptI P tr.1) (ptI P tr.2.1) (ptI P tr.2.2)
theorem lonT_eq {P : List PtQ} {F : List Rat} {tr : Tri} {p : PtQ} (h : areaQ (ptI P tr.1) (ptI P tr.2.1) (ptI P tr.2.2) ≠ 0) : lonT P F tr p = onQ P F tr p := by
 unfold lonT onQ sa0 sc0 mQQ;unfold areaQ at *;generalize ptI P tr.1 = a at *;generalize ptI P tr.2.1 = b at *;generalize ptI P tr.2.2 = c at *;generalize hI F tr.1 = x;generalize hI F tr.2.1 = y;generalize hI F tr.2.2 = z;obtain ⟨ax, ay⟩ := a;obtain ⟨bx, bY⟩ := b;obtain ⟨cx, cy⟩ := c;obtain ⟨px, py⟩ := p;dsimp only at *;have e : (bx - ax) * (cy - ay) - (bY - ay) * (cx - ax) = (bx - ax) * (cy - ay) - (bY - ay) * (cx - ax) := rfl;generalize hA : (bx - ax) * (cy - ay) - (bY - ay) * (cx - ax) = A at *;rw [Rat.div_def, Rat.div_def];have hi := Rat.mul_inv_cancel A h;generalize A⁻¹ = i at *;grind
abbrev Seg := Int × PtQ × PtQ
def cellG (s : Seg) : List Value := [.int .i64 s.1, .string (RS s.2.1.1), .string (RS s.2.1.2), .string (RS s.2.2.1), .string (RS s.2.2.2)]
def cellsG (l : List Seg) : List Value := l.flatMap cellG
theorem cellsG_snoc (l : List Seg) (s : Seg) : cellsG (l ++ [s]) = cellsG l ++ [.int .i64 s.1, .string (RS s.2.1.1), .string (RS s.2.1.2), .string (RS s.2.2.1), .string (RS s.2.2.2)] := by simp [cellsG, cellG]
def nbI (T : List Tri) (s : Edge) : Int := match (ownL T).find? (fun x => x.1 == revE s) with | some x => x.2 | none => -1
theorem ownL_ix {T : List Tri} {x : Edge × Int} (h : x ∈ ownL T) : ∃ j : Nat, x.2 = (j : Int) /\ j < T.length := by
 unfold ownL at h;obtain ⟨y, hy, hx⟩ := List.mem_flatMap.1 h;obtain ⟨s, _, rfl⟩ := List.mem_map.1 hx;obtain ⟨_, h2, _⟩ := List.mem_zipIdx hy;exact ⟨y.2, rfl, by omega⟩
theorem nbI_lt {T : List Tri} {s : Edge} (h : 0 <= nbI T s) : ∃ j : Nat, nbI T s = (j : Int) /\ j < T.length := by
 unfold nbI at h ⊢;cases e : (ownL T).find? (fun x => x.1 == revE s) with
 | none => rw [e] at h; exact absurd h (by decide)
 | some x => exact ownL_ix (List.mem_of_find?_eq_some e)
theorem nbI_some {T : List Tri} {s : Edge} (h : revE s ∈ (ownL T).map (·.1)) : (revE s, nbI T s) ∈ ownL T := by
 unfold nbI;cases e : (ownL T).find? (fun x => x.1 == revE s) with
 | none =>
   obtain ⟨x, hx, hx2⟩ := List.mem_map.1 h;have := List.find?_eq_none.1 e x hx;simp [hx2] at this
 | some x =>
   have h1 := List.mem_of_find?_eq_some e;have h2 := List.find?_some e;simp at h2;rw [<- h2]; exact h1
theorem nbI_none {T : List Tri} {s : Edge} (h : revE s ∉ (ownL T).map (·.1)) : nbI T s = -1 := by
 unfold nbI;cases e : (ownL T).find? (fun x => x.1 == revE s) with
 | none => rfl
 | some x =>
   have h1 := List.mem_of_find?_eq_some e;have h2 := List.find?_some e;simp at h2;exact absurd (List.mem_map.2 ⟨x, h1, h2⟩) h
def corP (P : List PtQ) (F : List Rat) (z : Int) : Cor := (ptI P z, hI F z)
def partT (P : List PtQ) (F : List Rat) (z : Rat) (tr : Tri) : List Cor := cutL (corP P F tr.1) (corP P F tr.2.1) (corP P F tr.2.2) z
def sideT (P : List PtQ) (tr : Tri) (a b : PtQ) : Int := sideL (ptI P tr.1) (ptI P tr.2.1) (ptI P tr.2.2) a b
def nbT (T : List Tri) (tr : Tri) (k : Int) : Int := nbI T (if k = 0 then sideK tr 0 else if k = 1 then sideK tr 1 else sideK tr 2)
def triI (T : List Tri) (j : Int) : Tri := T[j.toNat]?.getD (0, 0, 0)
theorem triI_nat (T : List Tri) (m : Nat) (h : m < T.length) : triI T (m : Int) = T[m] := by
 unfold triI; rw [Int.toNat_natCast, List.getElem?_eq_getElem h]; rfl
def corI (l : List Cor) (i : Nat) : Cor := l[i]?.getD ((0, 0), 0)
theorem corI_nat (l : List Cor) (i : Nat) (h : i < l.length) : corI l i = l[i] := by
 unfold corI; rw [List.getElem?_eq_getElem h]; rfl
def keepB (P : List PtQ) (T : List Tri) (F : List Rat) (z : Rat) (tr : Tri) (a b : Cor) : Bool :=
 decide (a.2 = z) && decide (b.2 = z) && (decide (sideT P tr a.1 b.1 < 0) || (decide (0 <= nbT T tr (sideT P tr a.1 b.1)) && (partT P F z (triI T (nbT T tr (sideT P tr a.1 b.1)))).isEmpty))
def segA (P : List PtQ) (T : List Tri) (F : List Rat) (z : Rat) (t : Nat) (tr : Tri) (l : List Cor) (i : Nat) : List Seg :=
 if keepB P T F z tr (corI l i) (corI l ((i + 1) % l.length)) then [((t : Int), (corI l i).1, (corI l ((i + 1) % l.length)).1)] else []
def segTo (P : List PtQ) (T : List Tri) (F : List Rat) (z : Rat) (t : Nat) (tr : Tri) (l : List Cor) : Nat -> List Seg | 0 => [] | i + 1 => segTo P T F z t tr l i ++ segA P T F z t tr l i
def levTo (P : List PtQ) (T : List Tri) (F : List Rat) (z : Rat) : Nat -> List Seg
 | 0 => []
 | t + 1 => levTo P T F z t ++ segTo P T F z t (triI T t) (partT P F z (triI T t)) (partT P F z (triI T t)).length
def levelL (P : List PtQ) (T : List Tri) (F : List Rat) (z : Rat) : List Seg := levTo P T F z T.length
theorem cutL_len (c0 c1 c2 : Cor) (z : Rat) : (cutL c0 c1 c2 z).length <= 6 := by
 unfold cutL;split
 ·exact cutTo_len c0 c1 c2 z 3
 ·simp
theorem cross_Sz {a b : Cor} {z : Rat} {k m : Nat} (ha : SzP k a.1 /\ Sz k a.2) (hb : SzP k b.1 /\ Sz k b.2) (hz : Sz m z) : SzP (6 * k + 3 * m + 6) (crossK a b z).1 := by
 have d1 := ha.2.sub hz;have d2 := hb.2.sub hz;have dd := d1.div (d1.sub d2) (by omega);unfold crossK towQ;exact ⟨(ha.1.1.add (dd.mul (hb.1.1.sub ha.1.1))).mono (by omega), (ha.1.2.add (dd.mul (hb.1.2.sub ha.1.2))).mono (by omega)⟩
theorem cutS_Sz {a b : Cor} {z : Rat} {k m : Nat} (ha : SzP k a.1 /\ Sz k a.2) (hb : SzP k b.1 /\ Sz k b.2) (hz : Sz m z) : ∀ c ∈ cutS a b z, SzP (6 * k + 3 * m + 6) c.1 := by
 intro c hc;unfold cutS at hc;rcases List.mem_append.1 hc with h | h
 ·split at h
  ·simp at h; subst h
   exact ⟨ha.1.1.mono (by omega), ha.1.2.mono (by omega)⟩
  ·simp at h
 ·split at h
  ·simp at h; subst h
   exact cross_Sz ha hb hz
  ·simp at h
theorem cutTo_Sz {c0 c1 c2 : Cor} {z : Rat} {k m : Nat} (h0 : SzP k c0.1 /\ Sz k c0.2) (h1 : SzP k c1.1 /\ Sz k c1.2) (h2 : SzP k c2.1 /\ Sz k c2.2) (hz : Sz m z) : ∀ (i : Nat), ∀ c ∈ cutTo c0 c1 c2 z i, SzP (6 * k + 3 * m + 6) c.1
 | 0 => fun c hc => by simp [cutTo] at hc
 | i + 1 => fun c hc => by
   unfold cutTo at hc;rcases List.mem_append.1 hc with h | h
   ·exact cutTo_Sz h0 h1 h2 hz i c h
   ·refine cutS_Sz ?_ ?_ hz c h
    ·unfold corA; split <;> assumption
    ·unfold corB; split <;> assumption
theorem cutL_Sz {c0 c1 c2 : Cor} {z : Rat} {k m : Nat} (h0 : SzP k c0.1 /\ Sz k c0.2) (h1 : SzP k c1.1 /\ Sz k c1.2) (h2 : SzP k c2.1 /\ Sz k c2.2) (hz : Sz m z) (c : Cor) (hc : c ∈ cutL c0 c1 c2 z) : SzP (6 * k + 3 * m + 6) c.1 := by
 unfold cutL at hc;split at hc
 ·exact cutTo_Sz h0 h1 h2 hz 3 c hc
 ·simp at hc
theorem sideL_cases (c0 c1 c2 a b : PtQ) : sideL c0 c1 c2 a b = -1 \/ sideL c0 c1 c2 a b = 0 \/ sideL c0 c1 c2 a b = 1 \/ sideL c0 c1 c2 a b = 2 := by
 unfold sideL;split
 ·exact .inr (.inl rfl)
 ·split
  ·exact .inr (.inr (.inl rfl))
  ·split
   ·exact .inr (.inr (.inr rfl))
   ·exact .inl rfl
def fanI (c : List Cor) (z : Rat) : Nat -> Rat
 | 0 => 0
 | n + 1 => fanI c z n + areaQ (corI c 0).1 (corI c (n + 1)).1 (corI c (n + 2)).1 * (1 / 2) * (((corI c 0).2 + (corI c (n + 1)).2 + (corI c (n + 2)).2) * (1 / 3) - z)
def integ (c : List Cor) (z : Rat) : Rat := fanI c z (c.length - 2)
def volTo (P : List PtQ) (T : List Tri) (F : List Rat) (z : Rat) : Nat -> Rat
 | 0 => 0
 | t + 1 => volTo P T F z t + integ (partT P F z (triI T t)) z
open Go.Shelf
attribute [local go_sem] Oper.semAt_some
def outsL (f : Fin 3 -> Int) (pre : List (Fin 3)) : List Value := pre.foldl (fun l x => l.set x.val (.int .i64 (f x))) [.int .i64 0, .int .i64 0, .int .i64 0]
theorem outsL_snoc (f : Fin 3 -> Int) (pre : List (Fin 3)) (x : Fin 3) : outsL f (pre ++ [x]) = (outsL f pre).set x.val (.int .i64 (f x)) := by
 unfold outsL; rw [List.foldl_append]; rfl
theorem outsL_len (f : Fin 3 -> Int) (pre : List (Fin 3)) : (outsL f pre).length = 3 := by
 unfold outsL;have : ∀ (pre : List (Fin 3)) (l : List Value), (pre.foldl (fun l x => l.set x.val (.int .i64 (f x))) l).length = l.length := by
  intro pre
  induction pre with
  | nil => intro l; rfl
  | cons x pre ih => intro l; rw [List.foldl_cons, ih, List.length_set]
 rw [this]; rfl
theorem neighbours_in (n : Nat) (hn : 6 <= n) (w : World) (vp vt : Value) (P : List PtQ) (T : List Tri) (k : Nat) (hp : RdP w vp (strP P)) (ht : RdT w vt T) (hm : MeshOK P T k) (hI : ∀ t ∈ T, InI t.1 /\ InI t.2.1 /\ InI t.2.2) (t : Nat) (htl : t < T.length) (tr : Tri) (htr : tr = T[t]) (hg : Good w) :
 CallsIn Fence.wide n Tryz.prog 77 #[.agg #[vp, vt], .int .i64 (t : Int)] w (Ret (fun r _ => r = .tuple #[.agg #[.int .i64 (nbI T (sideK tr 0)), .int .i64 (nbI T (sideK tr 1)), .int .i64 (nbI T (sideK tr 2))], .int .i64 0]) w) := by
 have h1 : 1 <= n := by omega
 have HCT : Hid (∀ w', Below w.heap.size w w' -> Good w' -> Calls Tryz.prog 131 #[.agg #[vp, vt], .int .i64 (t : Int)] w' (Ret (fun r _ => r = .int .i64 0) w')) := fun w' hb hg' => checkTriangle_ok w' vp vt P T k (RdC.below hp hb) (RdC.below ht hb) hm t htl hg';have HOW : Hid (∀ w', Below w.heap.size w w' -> Calls Tryz.prog 132 #[.agg #[vp, vt]] w' (Ret (OwnersP T w'.heap.size) w')) := fun w' hb => owners_any w' vp vt T (RdC.below ht hb) (by have := hm.tlen; omega) hI
 have HND := hid hm.nodup;have HIN : Hid (∀ x, InE (revE (sideK tr x))) := fun x => by
  obtain ⟨i1, i2, i3⟩ := hI tr (by rw [htr]; exact List.getElem_mem htl);rcases x with ⟨x, hx⟩
  rcases (by omega : x = 0 \/ x = 1 \/ x = 2) with rfl | rfl | rfl
  ·exact ⟨i2, i1⟩
  ·exact ⟨i3, i2⟩
  ·exact ⟨i1, i3⟩
 obtain ⟨pp, cp, rfl, -, -, -⟩ := hp.open;obtain ⟨pt, ct, rfl, htc, htm, htr'⟩ := ht.open;obtain ⟨b, off, rfl, hbl, hcell⟩ := htr' (List.ne_nil_of_length_pos (by omega));obtain ⟨e0, e1, e2⟩ := hcell t htl;rw [<- htr] at e0 e1 e2;have hltz : (t : Int) < (T.length : Int) := by omega
 clear hp ht hm hI htr' hcell htr htl htc htm;refine callsIn_of_wp_marks Tryz.func77 rfl trivial ?_ rfl;simp only [Tryz.ntmps77, List.size_toArray, List.length_cons, List.length_nil, Nat.reduceAdd, Nat.reduceSub, Array.replicate_succ, Array.replicate_zero, List.push_toArray, List.append_toArray, List.nil_append, List.cons_append];gi_wp2_with fail;obtain ⟨W, hW⟩ : ∃ W, W = (w.alloc (.cells #[.slice pp (strP P).length cp, .slice (some ⟨b, off, none⟩) T.length ct] 38)).alloc (.cells #[.int .i64 0, .int .i64 0, .int .i64 0] 70) := ⟨_, rfl⟩;have hB : Below w.heap.size w W := by rw [hW]; exact zal2 _ _ _
 have b4 : BoxN W (w.heap.size + 1) 70 [.int .i64 0, .int .i64 0, .int .i64 0] := by rw [hW]; exact BoxN.new _ _ _ _ (by simp)
 have b2 : BoxN W w.heap.size 38 [.slice pp (strP P).length cp, .slice (some ⟨b, off, none⟩) T.length ct] := by
  rw [hW];have h1 := (BoxN.new w #[.slice pp (strP P).length cp, .slice (some ⟨b, off, none⟩) T.length ct] 38 _ rfl);exact h1.below (zal _ _) h1.lt
 rw [<- hW];clear hW;refine ⟨trivial, ?_⟩;refine CallsIn.mono (callsIn_wide.2 (HCT.out W hB (hg.below hB))) ?_;rintro e w1 ⟨_, rfl, rfl, hb1⟩;have hB1 := hB.trans (hb1.mono hB.size);have b21 := b2.below hb1 b2.lt;have b41 := b4.below hb1 b4.lt;have x0 := b21.cell 0 rfl;have x1 := b21.cell 1 rfl;clear hb1 hB b2 b4;gi_wp2_with fail;refine ⟨trivial, ?_⟩;refine CallsIn.mono (callsIn_wide.2 (HOW.out w1 hB1)) ?_;rintro e w2 ⟨v, rfl, hov, hb2⟩;rcases hov with hov | ⟨hnn, _⟩
 rotate_left
 ·exact absurd HND.out hnn
 obtain ⟨_, bm, D, hbm, rfl, hM⟩ := hov;have hB2 := hB1.trans (hb2.mono hB1.size);have b22 := b21.below hb2 b21.lt;have b42 := b41.below hb2 b41.lt;have HM := hid hM;have hbm2 := hM.owns;have hbml : bm < w2.heap.size := by
  obtain ⟨es, ck, hh, _⟩ := hbm2;exact (Array.getElem?_eq_some_iff.1 hh).1
 clear hb2 hB1 b21 b41 x0 x1 hM hbm2;have x1 := b22.cell 1 rfl;have d0 := zcq hB2 hbl e0;have d1 := zcq hB2 hbl e1;have d2 := zcq hB2 hbl e2;have hz42 := b42.lt;have hz22 := b22.lt;have hbl2 : b < w2.heap.size := by omega
 gi_wp2_with fail;refine ⟨trivial, ?_⟩;refine CallsIn.mono (callsIn_wide.2 (sides_any tr _)) ?_;rintro e w3 ⟨rfl, rfl⟩;obtain ⟨W1, hW1⟩ : ∃ W1, W1 = ((w2.alloc (.cells #[.map (some bm)] 178)).alloc (.cells #[.int .i64 0, .int .i64 0, .int .i64 0] 70)).alloc (.cells #[.int .i64 tr.1, .int .i64 tr.2.1, .int .i64 tr.2.2] 71) := ⟨_, rfl⟩;have hbW1 : Below w2.heap.size w2 W1 := by rw [hW1]; exact (((Below.refl _ _).alloc (Nat.le_refl _) _).alloc (by simp) _).alloc (by simp; omega) _
 have hz1 : W1.heap.size = w2.heap.size + 3 := by rw [hW1]; simp
 have z7 : Boxed W1 w2.heap.size 178 (.map (some bm)) := by rw [hW1]; exact ((Boxed.new w2 _ _).alloc _).alloc _
 have z9 : BoxN W1 (w2.heap.size + 1) 70 [.int .i64 0, .int .i64 0, .int .i64 0] := by
  rw [hW1];have h1 := (BoxN.new (w2.alloc (.cells #[.map (some bm)] 178)) #[.int .i64 0, .int .i64 0, .int .i64 0] 70 (w2.heap.size + 1) (by simp));exact h1.below (zal _ _) h1.lt
 have s0 : W1.cell? ⟨w2.heap.size + 2, 0, none⟩ = some (.int .i64 tr.1) := by rw [hW1, World.cell?_alloc_at _ _ _ _ (by simp)]; rfl
 have s1 : W1.cell? ⟨w2.heap.size + 2, 1, none⟩ = some (.int .i64 tr.2.1) := by rw [hW1, World.cell?_alloc_at _ _ _ _ (by simp)]; rfl
 have s2 : W1.cell? ⟨w2.heap.size + 2, 2, none⟩ = some (.int .i64 tr.2.2) := by rw [hW1, World.cell?_alloc_at _ _ _ _ (by simp)]; rfl
 gi_wp2_with fail;rw [<- hW1];have hm1 : MapL viewE 3 (Lit.int .i64) W1 bm (3 * T.length) D (ownL T) := HM.out.below hbW1 hbml;have z4 : BoxN W1 (w.heap.size + 1) 70 [.int .i64 0, .int .i64 0, .int .i64 0] := b42.below hbW1 hz42;have hBW : Below w.heap.size w W1 := hB2.trans (hbW1.mono hB2.size);clear hW1 hbW1 HM b22 b42 x1 d0 d1 d2 e0 e1 e2 hB2;refine wpIn_rangeFunc_ownH rfl h1 (gf := 173) (lb := #[.pointer (some ⟨w2.heap.size + 1 + 1, 0, none⟩)]) rfl trivial (enters_of Tryz.func173 (by kernel_rfl) rfl)
  (sides_stops Fence.wide (n - 1) trivial rfl (by omega) (w2.heap.size + 2) w.heap.size tr W1 (by omega) s0 s1 s2) (fun h k => KeepAt.trans h k) (keepAt_b (by omega) (by omega)) (Below.refl _ _) (fun _ => rfl)
  (fun pre W => W1.grownBy W (some (w2.heap.size + 1)) /\ Hid (BoxN W (w2.heap.size + 1) 70 (outsL (fun x => nbI T (sideK tr x)) pre)))
  (fun _ _ _ => False)
  ?hI ?hIx ?h0 (fun x a' W => ∃ Bx, (W1.heap.size <= Bx /\ W.heap[Bx]? = some (.cells #[.int .i64 (sideK tr x).1, .int .i64 (sideK tr x).2] 88)) /\
   a' = { tmps := #[.agg #[.slice pp (strP P).length cp, .slice (some ⟨b, off, none⟩) T.length ct], .int .i64 t, .pointer (some ⟨w.heap.size, 0, none⟩), undef, .pointer (some ⟨w.heap.size + 1, 0, none⟩), .int .i64 0, .int .i64 0, .pointer (some ⟨w2.heap.size, 0, none⟩), .bool true, .pointer (some ⟨w2.heap.size + 1, 0, none⟩), .int .i64 (x.val : Int), .pointer (some ⟨Bx, 0, none⟩), undef, undef, .agg #[.slice pp (strP P).length cp, .slice (some ⟨b, off, none⟩) T.length ct], .int .i64 t, .int .i64 0, .int .i64 0, .bool false, undef, undef, .tuple #[.map (some bm), .bool true], .agg #[.slice pp (strP P).length cp, .slice (some ⟨b, off, none⟩) T.length ct], .tuple #[.map (some bm), .bool true], .map (some bm), .bool true, .pointer (some ⟨w.heap.size, 1, none⟩), .slice (some ⟨b, off, none⟩) T.length ct, .int .i64 t, .pointer (some ⟨b, off + t * 3, none⟩), .agg #[.int .i64 tr.1, .int .i64 tr.2.1, .int .i64 tr.2.2], .func (.func 173) #[] #[.pointer (some ⟨w2.heap.size + 1 + 1, 0, none⟩)], .int .i64 (x.val : Int), .agg #[.int .i64 (sideK tr x).1, .int .i64 (sideK tr x).2], undef, undef, undef, undef, undef, undef, undef, undef, undef, undef, undef, undef, undef, undef, undef, undef], defers := [] })
  ?hAx ?assign ?body ?done ?stop
 case hI =>
  rintro pre W W' row ⟨hs, ho⟩ hg hr;have hne : some (w2.heap.size + 1) ≠ row := fun e => by have := (hr _ e.symm).1; omega
  exact ⟨⟨hg.os.trans hs.os, hg.tape.trans hs.tape, hg.output.trans hs.output, Nat.le_trans hs.size hg.size, fun j hj hjn => (hg.block j (Nat.lt_of_lt_of_le hj hs.size) (fun e => by have := (hr _ e.symm).1; omega)).trans (hs.block j hj hjn)⟩, (hg.block _ ho.out.lt hne).trans ho.out⟩
 case hIx =>
  rintro c' pre W W' row h _ _;exact h
 case h0 => exact ⟨⟨rfl, rfl, rfl, Nat.le_refl _, fun _ _ _ => rfl⟩, z9⟩
 case hAx =>
  rintro x a' _ W W' row ⟨Bx, ⟨h1, h2⟩, h3⟩ hg hr;refine ⟨Bx, ⟨h1, (hg.block Bx (Array.getElem?_eq_some_iff.1 h2).1 (fun e => ?_)).trans h2⟩, h3⟩;obtain ⟨_, o, ho, hc⟩ := hr Bx e.symm;rw [h2] at ho; cases ho; cases hc
 case assign =>
  rintro l pre x W K ⟨hs, ho⟩ hK;dsimp only [encSide];gi_wp2_with fail;have hg1 := World.grownBy_alloc W (.cells #[.int .i64 (sideK tr x).1, .int .i64 (sideK tr x).2] 88) none;refine hK _ _ ((KeepsOthers.alloc _ _).from _) ⟨(Below.refl _ W).alloc (by have := hs.size; omega) _, Below.heap_alloc _ _ _ (by have := hs.size; omega)⟩ ⟨⟨hg1.os.trans hs.os, hg1.tape.trans hs.tape, hg1.output.trans hs.output, Nat.le_trans hs.size hg1.size, fun j hj hjn => (hg1.block j (Nat.lt_of_lt_of_le hj hs.size) (by simp)).trans (hs.block j hj hjn)⟩, (hg1.block _ ho.out.lt (by simp)).trans ho.out⟩ ⟨W.heap.size, ⟨hs.size, World.alloc_heap_new _ _⟩, rfl⟩
 case body =>
  rintro l pre x a' W hl ⟨r, hr⟩ ⟨hs, ho⟩ ⟨Bx, ⟨hBx, hbx⟩, rfl⟩ hlt';have q7 : Boxed W w2.heap.size 178 (.map (some bm)) := z7.kept hs (by simp);have c7 := q7.cell;have hm : MapL viewE 3 (Lit.int .i64) W bm (3 * T.length) D (ownL T) := hm1.kept hs (by simp; omega);have cb0 : W.cell? ⟨Bx, 0, none⟩ = some (.int .i64 (sideK tr x).1) := by simp [World.cell?, hbx]
  have cb1 : W.cell? ⟨Bx, 1, none⟩ = some (.int .i64 (sideK tr x).2) := by simp [World.cell?, hbx]
  have hown := hm.owns;have HX := HIN.out x;have hkey : keyOf Tryz.prog 88 (.agg #[.int .i64 (sideK tr x).2, .int .i64 (sideK tr x).1]) = some (kE (revE (sideK tr x))) := keyE HX.1 HX.2;have hlen := outsL_len (fun x => nbI T (sideK tr x)) pre;have c9' := ho.out.cell x.val (List.getElem?_eq_getElem (by rw [hlen]; exact x.isLt));have c9f := ho.out.frozen x.val;have hx3 : (x.val : Int) < 3 := by have := x.isLt; omega
  obtain ⟨v9, hv9⟩ : ∃ v9, W.cell? ⟨w2.heap.size + 1, x.val, none⟩ = some v9 := ⟨_, c9'⟩;have hhas := hm.has_iff HX;have HSET : Hid (∀ y : Int, y = nbI T (sideK tr x) -> BoxN (W.setCell ⟨w2.heap.size + 1, x.val, none⟩ (.int .i64 y)) (w2.heap.size + 1) 70 (outsL (fun x => nbI T (sideK tr x)) (pre ++ [x]))) := fun y hy => by
   rw [outsL_snoc, hy];exact ho.out.set x.val (.int .i64 (nbI T (sideK tr x)))
  have HGR : Hid (∀ y : Value, W1.grownBy (W.setCell ⟨w2.heap.size + 1, x.val, none⟩ y) (some (w2.heap.size + 1))) := fun y =>
   ⟨hs.os, hs.tape, hs.output, by simpa using hs.size, fun j hj hjn => (Below.heap_setCell _ _ _ j (by rintro rfl; exact hjn rfl)).trans (hs.block j hj hjn)⟩
  have HKE := hid hkey;have HHAS := hid hhas;have HMM := hid hm;clear hbx hr hkey hhas q7 c9' hlen ho hm;generalize hjx : x.val = jx at *;have HJX := hid hjx;clear hjx;cases hsn : Maps.has D (viewE.lit (revE (sideK tr x)))
  ·have hnk : revE (sideK tr x) ∉ (ownL T).map (·.1) := fun hmm => by
    have := HHAS.out.2 hmm;rw [hsn] at this; cases this
   have HNK := hid (nbI_none hnk);have HSN := hid hsn;clear hnk hsn;gi_wp2_with (gi_at_lookup; refine wpListIn_lookup_own_ok_int _ rfl _ _ 178 rfl 88 3 .i64 lawE und_EI und_I (zeroI _) bm (3 * T.length) D rfl hown _ _ rfl HKE.out ?_; rw [show Maps.has D (kE (revE (sideK tr x))) = false from HSN.out]; intro cz hat hwc; clear hat hwc);exact ⟨(KeepsOthers.setCell _ _ _).from _, ⟨(Below.refl _ W).setCell (p := ⟨w2.heap.size + 1, jx, none⟩) (by show w.heap.size <= w2.heap.size + 1; omega) _, Below.heap_setCell _ _ _ _ (by show w2.heap.size + 2 ≠ w2.heap.size + 1; omega)⟩, HGR.out _, hid (HSET.out _ HNK.out.symm)⟩
  ·have hnk : revE (sideK tr x) ∈ (ownL T).map (·.1) := HHAS.out.1 hsn
   have hat2 := HMM.out.at (nbI_some hnk) (.lit (.int .i64 0));have HAT := hid hat2;have HSN := hid hsn;clear hnk hsn hat2;gi_wp2_with (gi_at_lookup; refine wpListIn_lookup_own_ok_int _ rfl _ _ 178 rfl 88 3 .i64 lawE und_EI und_I (zeroI _) bm (3 * T.length) D rfl hown _ _ rfl HKE.out ?_; rw [show Maps.has D (kE (revE (sideK tr x))) = true from HSN.out]; intro cz hat hwc; have HCZ : Hid (cz = nbI T (sideK tr x)) := (by have h1 := hat.symm.trans HAT.out; injection h1 with h1; injection h1); clear hat hwc);exact ⟨(KeepsOthers.setCell _ _ _).from _, ⟨(Below.refl _ W).setCell (p := ⟨w2.heap.size + 1, jx, none⟩) (by show w.heap.size <= w2.heap.size + 1; omega) _, Below.heap_setCell _ _ _ _ (by show w2.heap.size + 2 ≠ w2.heap.size + 1; omega)⟩, HGR.out _, hid (HSET.out _ HCZ.out)⟩
 case done =>
  rintro E ys W hE rfl ⟨hs, ho⟩ hK;have r4 : BoxN W (w.heap.size + 1) 70 [.int .i64 0, .int .i64 0, .int .i64 0] := (hs.block _ (by omega) (by simp; omega)).trans z4;have r9 : BoxN W (w2.heap.size + 1) 70 [.int .i64 (nbI T (sideK tr 0)), .int .i64 (nbI T (sideK tr 1)), .int .i64 (nbI T (sideK tr 2))] := ho.out;have hBW2 : Below w.heap.size w W := hBW.grown hs hBW.size (fun j e => by cases e; omega);have a0 := r4.cell 0 rfl;have a1 := r4.cell 1 rfl;have a2 := r4.cell 2 rfl;have f0 := r4.frozen 0;have f1 := r4.frozen 1;have f2 := r4.frozen 2;have n0 := r9.cell 0 rfl;have n1 := r9.cell 1 rfl;have n2 := r9.cell 2 rfl;obtain ⟨y0, hy0⟩ : ∃ y, y = nbI T (sideK tr 0) := ⟨_, rfl⟩;obtain ⟨y1, hy1⟩ : ∃ y, y = nbI T (sideK tr 1) := ⟨_, rfl⟩;obtain ⟨y2, hy2⟩ : ∃ y, y = nbI T (sideK tr 2) := ⟨_, rfl⟩;rw [<- hy0] at n0;rw [<- hy1] at n1;rw [<- hy2] at n2;have HY : Hid (y0 = nbI T (sideK tr 0) /\ y1 = nbI T (sideK tr 1) /\ y2 = nbI T (sideK tr 2)) := ⟨hy0, hy1, hy2⟩;have hszW := hs.size;clear hy0 hy1 hy2;gi_wp2_with fail;have hne : E ≠ w.heap.size + 1 := by omega
  have hKs : ((((W.setCell ⟨w.heap.size + 1, 0, none⟩ (.int .i64 y0)).setCell ⟨w.heap.size + 1, 1, none⟩ (.int .i64 y1)).setCell ⟨w.heap.size + 1, 2, none⟩ (.int .i64 y2))).heap[E]? = some (.deferred (some [])) := by
   rw [Below.heap_setCell _ _ _ E hne, Below.heap_setCell _ _ _ E hne, Below.heap_setCell _ _ _ E hne];exact hK
  have hle : w.heap.size <= w.heap.size + 1 := by omega
  have hBs := ((hBW2.setCell (p := ⟨w.heap.size + 1, 0, none⟩) hle (.int .i64 y0)).setCell (p := ⟨w.heap.size + 1, 1, none⟩) hle (.int .i64 y1)).setCell (p := ⟨w.heap.size + 1, 2, none⟩) hle (.int .i64 y2);have r4s := ((r4.set 0 (.int .i64 y0)).set 1 (.int .i64 y1)).set 2 (.int .i64 y2);have hl4 := r4s.lt;refine leaves_marks (B := W1.heap.size) ⟨[E], rfl, (by simp), fun D hD => by rw [List.mem_singleton] at hD; subst hD; exact ⟨hE, hKs⟩⟩ fun w' hw' => ?_
  have q4 : BoxN w' (w.heap.size + 1) 70 [.int .i64 y0, .int .i64 y1, .int .i64 y2] := (hw'.block _ (.inl (by omega)) hl4).trans r4s;have k0 := q4.cell 0 rfl;have k1 := q4.cell 1 rfl;have k2 := q4.cell 2 rfl;refine ⟨.tuple #[.agg #[.int .i64 y0, .int .i64 y1, .int .i64 y2], .int .i64 0], by simp [results, Tryz.results77, go_sem, k0, k1, k2], ?_⟩;obtain ⟨e0, e1, e2⟩ := HY.out;refine ⟨_, rfl, by rw [e0, e1, e2], hBs.trans ((hw'.below (by simpa using hszW)).mono (by omega))⟩
 case stop =>
  rintro E c' pre W hE hSp h hK;exact h.elim
theorem neighbours_any (w : World) (vp vt : Value) (P : List PtQ) (T : List Tri) (k : Nat) (hp : RdP w vp (strP P)) (ht : RdT w vt T) (hm : MeshOK P T k) (t : Nat) (htl : t < T.length) (tr : Tri) (htr : tr = T[t]) (hg : Good w) :
 Calls Tryz.prog 77 #[.agg #[vp, vt], .int .i64 (t : Int)] w (Ret (fun r _ => r = .tuple #[.agg #[.int .i64 (nbI T (sideK tr 0)), .int .i64 (nbI T (sideK tr 1)), .int .i64 (nbI T (sideK tr 2))], .int .i64 0]) w) :=
 callsIn_wide.1 (neighbours_in 6 (by omega) w vp vt P T k hp ht hm (fun t ht => by
  have hpl := hm.plen;have key : ∀ x ∈ idxOf t, InI x := fun x hx => by
   have := hm.idx t ht x hx;unfold InI;omega
  exact ⟨key _ (by simp [idxOf]), key _ (by simp [idxOf]), key _ (by simp [idxOf])⟩) t htl tr htr hg)
end Go.Proofs.YtegiemcnfbchoaaGreatDoor
