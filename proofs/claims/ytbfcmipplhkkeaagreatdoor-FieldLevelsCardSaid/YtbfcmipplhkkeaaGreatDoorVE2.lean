import Derived.Test.YtbfcmipplhkkeaaGreatDoorVW2
/- The walks over field.on, field.number, field.Value. Klippelaw12.Place, Make Right sheets Plain The walks over rational.Whole, klippelaw12.point, mesh.Grid. mesh.checkTriangle The walks over mesh.Boundary, mesh.right, mesh.Shares, mesh.within. The walks over field.toward, field.side. Parts of a triangle above a height -/
set_option maxHeartbeats 8000000
set_option maxRecDepth 100000
namespace Go.Proofs.YtbfcmipplhkkeaaGreatDoor
open Go.RowKit Go.Lib
def onQ (P : List PtQ) (F : List Rat) (tr : Tri) (p : PtQ) : Rat := hI F tr.1 + (sTT P F tr).1 * (p.1 - (ptI P tr.1).1) + (sTT P F tr).2 * (p.2 - (ptI P tr.1).2)
theorem oj0 (w : World) (vp vt vf : Value) (P : List PtQ) (T : List Tri) (k : Nat) (F : List Rat) (h : FieldIn w vp vt vf P T k F) (t : Nat) (tz : Int) (h7 : tz = (t : Int)) (g : t < T.length) (tr : Tri) (C : tr = T[t]) (p : PtQ) (m : Nat) (h3 : 0 < m) (hm : m <= 1000) (hs : SzP m (sTT P F tr)) (hp : SzP m p) (D : k <= m) (R : Good w) :
 Calls Tryz.prog 39 #[.agg #[vp, vt], vf, .int .i64 tz, .agg #[.string (RS p.1), .string (RS p.2)]] w (Ret (fun r _ => r = .string (RS (onQ P F tr p))) w) := by
 have N : tr ∈ T := by rw [C]; exact List.getElem_mem g
 obtain ⟨g0, g1⟩ := h.m.idx tr N tr.1 (by simp [idxOf]);obtain ⟨q, hq⟩ : ∃ q : Nat, tr.1 = (q : Int) := ⟨tr.1.toNat, by omega⟩;have hl := h.fl;have M : q < F.length := by omega
 have L : q < P.length := by omega
 have HH := hid h;have hi : Hid (∀ (w : World), FieldIn w vp vt vf P T k F -> Good w -> Calls Tryz.prog 55 #[.agg #[vp, vt], vf, .int .i64 tz] w (Ret (fun r _ => r = .agg #[.string (RS (sTT P F tr).1), .string (RS (sTT P F tr).2)]) w)) := fun w h R =>
  sl0 w _ _ _ P T k F h.p h.t h.m.toMIn h.m.klim2 h.f h.fs h.fl t tz h7 g tr C (h.m.turns tr N) R
 obtain ⟨bt, ot, ct, rfl, hk, e0, _, _⟩ := h.tri t g;obtain ⟨bf, of, cf, rfl, hj, ef⟩ := h.hgt q M;have h5 := h.p;obtain ⟨pp, cp, rfl, _, _, h6⟩ := h5.open;obtain ⟨bp, op, rfl, h0, h4⟩ := h6 (by intro e; have h := sPl P; rw [e] at h; simp at h; omega);obtain ⟨ex, ey⟩ := h4 q (by rw [sPl]; exact L);rw [sPg P q L] at ex ey;dsimp only at ex ey;rw [<- C, hq] at e0;have zo := h.m.sz _ (List.getElem_mem L);have zf := h.fs _ (List.getElem_mem M);unfold onQ;rw [hq, he0 F q M, pIn P q L];rw [he0 F q M] at ef;rw [sPl] at *;generalize sTT P F tr = S at *;generalize P[q] = o at *;generalize F[q] = f at *;have d1 : Sz (2 * m + 1) (p.1 - o.1) := (hp.1.sub (zo.1.mono D)).mono (by omega);have d2 : Sz (2 * m + 1) (p.2 - o.2) := (hp.2.sub (zo.2.mono D)).mono (by omega);have m1 : Sz (3 * m + 1) (S.1 * (p.1 - o.1)) := (hs.1.mul d1).mono (by omega);have m2 : Sz (3 * m + 1) (S.2 * (p.2 - o.2)) := (hs.2.mul d2).mono (by omega);have hd := hid fun w R => rSa p.1 o.1 m h3 (by omega) hp.1 (zo.1.mono D) w R
 have he := hid fun w R => rSa p.2 o.2 m h3 (by omega) hp.2 (zo.2.mono D) w R
 have hf := hid fun w R => rMa S.1 (p.1 - o.1) (2 * m + 1) (by omega) (by omega) (hs.1.mono (by omega)) d1 w R
 have hh := hid fun w R => rMa S.2 (p.2 - o.2) (2 * m + 1) (by omega) (by omega) (hs.2.mono (by omega)) d2 w R
 have B : Hid (∀ (v : Value) (w : World), RdQ w v [f, S.1 * (p.1 - o.1), S.2 * (p.2 - o.2)] -> Good w -> _) := fun v w hr R => rb0 [f, S.1 * (p.1 - o.1), S.2 * (p.2 - o.2)] (3 * m + 1) (by omega) (by simp; omega) (by
  intro q hq;simp only [List.mem_cons, List.not_mem_nil, or_false] at hq;rcases hq with rfl | rfl | rfl
  ·exact zf.mono (by omega)
  ·exact m1
  ·exact m2) v w hr R
 have O : [f, S.1 * (p.1 - o.1), S.2 * (p.2 - o.2)].foldl (·+ ·) 0 = f + S.1 * (p.1 - o.1) + S.2 * (p.2 - o.2) := by
  simp only [List.foldl_cons, List.foldl_nil];grind
 rw [O] at B;generalize f + S.1 * (p.1 - o.1) + S.2 * (p.2 - o.2) = res at *;generalize S.1 * (p.1 - o.1) = x1 at *;generalize S.2 * (p.2 - o.2) = x2 at *;generalize p.1 - o.1 = y1 at *;generalize p.2 - o.2 = y2 at *;have hv : (t : Int) < (T.length : Int) := by omega
 have ht : (q : Int) < (P.length : Int) := by omega
 have hu : (q : Int) < (F.length : Int) := by omega
 have i0 := iT0;subst h7;clear h C N h5 h6 h4 hs hp zo zf d1 d2 m1 m2 O g0 g1 hq M L hl;go_enter Tryz.func39, Tryz.ntmps39;go_wp2_with fail;obtain ⟨W, hW⟩ := zex ((w.alloc (.cells #[.slice (some ⟨bp, op, none⟩) P.length cp, .slice (some ⟨bt, ot, none⟩) T.length ct] 35)).alloc (.cells #[.string (RS p.1), .string (RS p.2)] 50));have hB : Below w.heap.size w W := by rw [hW]; exact zal2 _ _ _
 have b7 : BoxN W (w.heap.size + 1) 50 [.string (RS p.1), .string (RS p.2)] := by rw [hW]; exact BoxN.new _ _ _ _ (by simp)
 have b4 : BoxN W w.heap.size 35 [.slice (some ⟨bp, op, none⟩) P.length cp, .slice (some ⟨bt, ot, none⟩) T.length ct] := by
  rw [hW];have h1 := (BoxN.new w #[.slice (some ⟨bp, op, none⟩) P.length cp, .slice (some ⟨bt, ot, none⟩) T.length ct] 35 _ rfl);exact h1.below (zal _ _) h1.lt
 rw [<- hW];clear hW;refine (hi.out W (HH.out.below hB) (R.below hB)).mono ?_;rintro e b ⟨_, rfl, rfl, H⟩;have a := zbt hB H;have n := b7.below H b7.lt;have x := b4.below H b4.lt;clear H hB b7 b4;go_upto_region 2 with fail;obtain ⟨A, J⟩ : ∃ W, W = b.alloc (.cells #[.string (RS S.1), .string (RS S.2)] 50) := ⟨_, rfl⟩;have G : Below b.heap.size b A := by rw [J]; exact zal _ _
 have b9 : BoxN A b.heap.size 50 [.string (RS S.1), .string (RS S.2)] := by rw [J]; exact BoxN.new _ _ _ _ rfl
 rw [<- J];clear J;have Q := zbt a G;have l := n.below G n.lt;have s := x.below G x.lt;clear G a n x;have x0 := s.cell 0 rfl;have ho := s.cell 1 rfl;have k0 := zcq Q hk e0;have k1 := zcq Q h0 ex;have k2 := zcq Q h0 ey;go_upto_region 4 with fail;obtain ⟨z, I⟩ : ∃ W, W = A.alloc (.cells #[.string (RS o.1), .string (RS o.2)] 50) := ⟨_, rfl⟩;have E : Below A.heap.size A z := by rw [I]; exact zal _ _
 have y : BoxN z A.heap.size 50 [.string (RS o.1), .string (RS o.2)] := by rw [I]; exact BoxN.new _ _ _ _ rfl
 rw [<- I];clear I;have K := zbt Q E;have j := l.below E l.lt;have i := b9.below E b9.lt;clear E Q l b9 s x0 ho k0 k1 k2 e0 ex ey;have kf := zcq K hj ef;have u0 := i.cell 0 rfl;have u1 := i.cell 1 rfl;have v0 := j.cell 0 rfl;have v1 := j.cell 1 rfl;have w0 := y.cell 0 rfl;have c := y.cell 1 rfl;have hw := i.lt;have hx := j.lt;have hy := y.lt;have hz := K.size;have h2 : Good z.drew := (R.below K).drewN 1;clear ef;go_region_held3 (fun w' => w'.cell? ⟨bf, of + q, none⟩ = some (.string (RS f)) /\ w'.cell? ⟨b.heap.size, 0, none⟩ = some (.string (RS S.1)) /\ w'.cell? ⟨w.heap.size + 1, 0, none⟩ = some (.string (RS p.1)) /\ w'.cell? ⟨A.heap.size, 0, none⟩ = some (.string (RS o.1)) /\ w'.cell? ⟨b.heap.size, 1, none⟩ = some (.string (RS S.2)) /\ w'.cell? ⟨w.heap.size + 1, 1, none⟩ = some (.string (RS p.2)) /\ w'.cell? ⟨A.heap.size, 1, none⟩ = some (.string (RS o.2)))
  (first | with_reducible exact ⟨kf, u0, v0, w0, u1, v1, c⟩ | with_reducible exact ⟨r_1_0, r_1_1, r_1_2, r_1_3, r_1_4, r_1_5, r_1_6⟩ | with_reducible exact ⟨r_2_0, r_2_1, r_2_2, r_2_3, r_2_4, r_2_5, r_2_6⟩ | with_reducible exact ⟨r_3_0, r_3_1, r_3_2, r_3_3, r_3_4, r_3_5, r_3_6⟩ | with_reducible exact ⟨r_4_0, r_4_1, r_4_2, r_4_3, r_4_4, r_4_5, r_4_6⟩ | with_reducible exact ⟨(cal _ r_4_0), (cal _ r_4_1), (cal _ r_4_2), (cal _ r_4_3), (cal _ r_4_4), (cal _ r_4_5), (cal _ r_4_6)⟩ | with_reducible exact ⟨r_5_0, r_5_1, r_5_2, r_5_3, r_5_4, r_5_5, r_5_6⟩ | exact ⟨kf, u0, v0, w0, u1, v1, c⟩ | exact ⟨r_1_0, r_1_1, r_1_2, r_1_3, r_1_4, r_1_5, r_1_6⟩ | exact ⟨r_2_0, r_2_1, r_2_2, r_2_3, r_2_4, r_2_5, r_2_6⟩ | exact ⟨r_3_0, r_3_1, r_3_2, r_3_3, r_3_4, r_3_5, r_3_6⟩ | exact ⟨r_4_0, r_4_1, r_4_2, r_4_3, r_4_4, r_4_5, r_4_6⟩ | exact ⟨(cal _ r_4_0), (cal _ r_4_1), (cal _ r_4_2), (cal _ r_4_3), (cal _ r_4_4), (cal _ r_4_5), (cal _ r_4_6)⟩ | exact ⟨r_5_0, r_5_1, r_5_2, r_5_3, r_5_4, r_5_5, r_5_6⟩)
  (first
  | (go_at_call 79; refine (B.out _ _ (RdQ.fresh d [f, x1, x2] _ _ rfl (by simp) 3 rfl _ rfl) (hb.alloc _)).mono ?_; rintro e hc ⟨_, rfl, rfl, rb5_⟩
     have U : Below d.heap.size d hc := ((Below.refl _ _).alloc (Nat.le_refl _) _).trans (rb5_.mono (by simp));have r_5_0 := zct U r_4_0;have r_5_1 := zct U r_4_1;have r_5_2 := zct U r_4_2;have r_5_3 := zct U r_4_3;have r_5_4 := zct U r_4_4;have r_5_5 := zct U r_4_5;have r_5_6 := zct U r_4_6;have hD := U.size;have hA := hb.below U)
  | (go_at_call 80; refine (hh.out _ ha).mono ?_; rintro e d ⟨_, rfl, rfl, V⟩
     have r_4_0 := zct V r_3_0;have r_4_1 := zct V r_3_1;have r_4_2 := zct V r_3_2;have r_4_3 := zct V r_3_3;have r_4_4 := zct V r_3_4;have r_4_5 := zct V r_3_5;have r_4_6 := zct V r_3_6;have hC := V.size;have hb := ha.below V)
  | (go_at_call 68; refine (he.out _ h9).mono ?_; rintro e hF ⟨_, rfl, rfl, X⟩
     have r_3_0 := zct X r_2_0;have r_3_1 := zct X r_2_1;have r_3_2 := zct X r_2_2;have r_3_3 := zct X r_2_3;have r_3_4 := zct X r_2_4;have r_3_5 := zct X r_2_5;have r_3_6 := zct X r_2_6;have rs3 := X.size;have ha := h9.below X)
  | (go_at_call 80; refine (hf.out _ h8).mono ?_; rintro e hE ⟨_, rfl, rfl, Y⟩
     have r_2_0 := zct Y r_1_0;have r_2_1 := zct Y r_1_1;have r_2_2 := zct Y r_1_2;have r_2_3 := zct Y r_1_3;have r_2_4 := zct Y r_1_4;have r_2_5 := zct Y r_1_5;have r_2_6 := zct Y r_1_6;have rs2 := Y.size;have h9 := h8.below Y)
  | (go_at_call 68; refine (hd.out _ h2).mono ?_; rintro e hn ⟨_, rfl, rfl, Z⟩
     have r_1_0 := zct Z kf;have r_1_1 := zct Z u0;have r_1_2 := zct Z v0;have r_1_3 := zct Z w0;have r_1_4 := zct Z u1;have r_1_5 := zct Z v1;have r_1_6 := zct Z c;have rs1 : z.heap.size <= hn.heap.size := Z.size;have h8 := h2.below Z))
 have rB : Below z.heap.size z hc := zbt (zbt (zbt (zbt (zbt (bdN z 1) Z) Y) X) V) U;go_wp2_with fail;go_ret;exact ⟨_, rfl, rfl, (zbt K rB)⟩
theorem fa0 (q : Rat) (h : Sz 200 q) (w : World) (X : Good w) :
 Calls Tryz.prog 38 #[.string (RS q)] w (Ret (fun r _ => r = .tuple #[.string (RS q), .int .i64 0]) w) := by
 have V := h.size (by omega);have Y : Hid (eNm (rQQ (RS q).data.toList) = 0) := by unfold Hid; rw [Rlt, rQR h]; rfl
 clear h;go_enter Tryz.func38, Tryz.ntmps38;go_wp2_with fail;refine (cQa (RS q) (by omega) _ X).mono ?_;rintro e U ⟨_, rfl, rfl, Z⟩;rw [Y.out];go_wp2_with fail;go_ret2;exact ⟨_, rfl, rfl, Z⟩
theorem vin (w : World) (v s vf : Value) (P : List PtQ) (T : List Tri) (k : Nat) (F : List Rat) (h : FieldIn w v s vf P T k F) (p : PtQ) (C : SzP 200 p) (t : Nat) (l : List Int) (hl : locN P T p T.length = (t : Int) :: l) (a : t < T.length) (hs : SzP 200 (sTT P F T[t])) (hz : Sz 200 (onQ P F T[t] p)) (c : Good w) :
 Calls Tryz.prog 11 #[.agg #[v, s], vf, .agg #[.string (RS p.1), .string (RS p.2)]] w (Ret (fun r _ => r = .tuple #[.string (RS (onQ P F T[t] p)), .int .i64 0]) w) := by
 have HH := hid h;have J : Hid (∀ w', Below w.heap.size w w' -> Good w' -> _) := fun w' hb hg' => lok w' v s P T k (h.below hb).p (h.below hb).t h.m p C hg';rw [hl] at J;have i : Hid (∀ w', Below w.heap.size w w' -> Good w' -> _) := fun w' hb hg' => oj0 w' v s vf P T k F (h.below hb) t t rfl a T[t] rfl p 200 (by omega) (by omega) hs C h.m.klim2 hg'
 have j : Hid (∀ w', Good w' -> _) := fun w' hg' => fa0 (onQ P F T[t] p) hz w' hg';obtain ⟨A, I, z, H, pf, cf, rfl, rfl, rfl⟩ := h.open;generalize onQ P F T[t] p = res at *;generalize RS res = ress at *;generalize RS p.1 = px at *;generalize RS p.2 = py at *;clear h hl hs hz;go_enter Tryz.func11, Tryz.ntmps11;go_wp2_with fail;obtain ⟨W, K⟩ := zex (((w.alloc (.cells #[.slice A P.length I, .slice z T.length H] 35)).alloc (.cells #[.string px, .string py] 50)).alloc (.cells #[.slice pf F.length cf] 38));have x : Below w.heap.size w W := by rw [K]; exact (((Below.refl _ _).alloc (Nat.le_refl _) _).alloc (by simp) _).alloc (by simp; omega) _
 have bF : BoxN W (w.heap.size + 1 + 1) 38 [.slice pf F.length cf] := by rw [K]; exact BoxN.new _ _ _ _ (by simp)
 have f : BoxN W (w.heap.size + 1) 50 [.string px, .string py] := by
  rw [K];have G := (BoxN.new (w.alloc (.cells #[.slice A P.length I, .slice z T.length H] 35)) #[.string px, .string py] 50 (w.heap.size + 1) (by simp));exact G.below (zal _ _) G.lt
 have g : BoxN W w.heap.size 35 [.slice A P.length I, .slice z T.length H] := by
  rw [K];have G := (BoxN.new w #[.slice A P.length I, .slice z T.length H] 35 _ rfl);exact G.below (((Below.refl _ _).alloc (Nat.le_refl _) _).alloc (by simp) _) G.lt
 rw [<- K];clear K;refine (cg0 (HH.out.below x) _ (bF.cell 0 rfl) (c.below x)).mono ?_;rintro e w1 ⟨_, rfl, rfl, Q⟩;have S := zbt x Q;have U := f.below Q f.lt;have V := g.below Q g.lt;have q := V.cell 0 rfl;have o := V.cell 1 rfl;have n := U.cell 0 rfl;have m := U.cell 1 rfl;clear Q x f g bF;go_wp2_with fail;refine (J.out w1 S (c.below S)).mono ?_;rintro e L ⟨_, rfl, ⟨vl, rfl, B⟩, O⟩;have R := zbt S O;have M := U.below O U.lt;have N := V.below O V.lt;obtain ⟨pl, cl, rfl, h5, -, D⟩ := B.open;obtain ⟨bl, ol, rfl, h4, X⟩ := D (by simp);have z0 := X 0 (by simp);have h7 := M.lt;have h6 := N.lt;have h3 : 0 < ((t : Int) :: l).length := by simp
 have b : ¬ (((t : Int) :: l).length = 0) := by simp
 simp only [List.getElem_cons_zero, Nat.add_zero] at z0;clear q o n m B D X O S U V;have q := N.cell 0 rfl;have o := N.cell 1 rfl;have n := M.cell 0 rfl;have m := M.cell 1 rfl;generalize ((t : Int) :: l).length = nl at *;have E : Good L.drew := (c.below R).drewN 1;have d : Below w.heap.size w L.drew := R.trans ((bdN L 1).mono R.size);go_upto_region 9 with fail;go_region_held3 (fun w' => w'.cell? ⟨w.heap.size, 0, none⟩ = some (.slice A P.length I) /\ w'.cell? ⟨w.heap.size, 1, none⟩ = some (.slice z T.length H) /\ w'.cell? ⟨bl, ol, none⟩ = some (.int .i64 t) /\ w'.cell? ⟨w.heap.size + 1, 0, none⟩ = some (.string px) /\ w'.cell? ⟨w.heap.size + 1, 1, none⟩ = some (.string py))
  (first | exact ⟨q, o, z0, n, m⟩ | exact ⟨r_1_0, r_1_1, r_1_2, r_1_3, r_1_4⟩ | exact ⟨r_2_0, r_2_1, r_2_2, r_2_3, r_2_4⟩)
  (first
  | (go_at_call 38; refine (j.out _ y).mono ?_; rintro e h2 ⟨_, rfl, rfl, Y⟩
     have r_2_0 := zct Y r_1_0;have r_2_1 := zct Y r_1_1;have r_2_2 := zct Y r_1_2;have r_2_3 := zct Y r_1_3;have r_2_4 := zct Y r_1_4;have rs2 := Y.size;have h8 := y.below Y)
  | (go_at_call 39; refine (i.out _ d E).mono ?_; rintro e h0 ⟨_, rfl, rfl, Z⟩
     have r_1_0 := zct Z q;have r_1_1 := zct Z o;have r_1_2 := zct Z z0;have r_1_3 := zct Z n;have r_1_4 := zct Z m;have rs1 : L.heap.size <= h0.heap.size := Z.size;have y := E.below Z))
 have rB : Below L.heap.size L h2 := zbt (zbt (bdN L 1) Z) Y;go_wp2_with fail;go_ret2;exact ⟨_, rfl, rfl, (zbt R rB)⟩
def halfD (half : Bool) : Nat := if half then 2 else 1
def pQQ (s : Int) (half : Bool) (x : Int) : Rat := mkRat (x + s.tmod 8) (halfD half)
theorem t8b (s : Int) : -7 <= s.tmod 8 /\ s.tmod 8 <= 7 := by
 rcases Int.le_total 0 s with h | h
 ·rw [Int.tmod_eq_emod_of_nonneg h]; omega
 ·have Z : s.tmod 8 = -((-s).tmod 8) := by rw [Int.neg_tmod]; omega
  rw [Z, Int.tmod_eq_emod_of_nonneg (by omega)];omega
theorem pl0 (w : World) (H S R : Int) (Z : Bool) (x y : Int) (_hs0 : -128 <= S /\ S <= 127) (_hs1 : -128 <= R /\ R <= 127) (hx : -100 <= x /\ x <= 100) (hy : -100 <= y /\ y <= 100) (G : Good w) :
 Calls Tryz.prog 24 #[.agg #[.int .u8 H, .int .i8 S, .int .i8 R, .bool Z], .agg #[.int .i8 x, .int .i8 y], .int .i64 1] w (Ret (fun r _ => r = .agg #[.string (RS (pQQ S Z x)), .string (RS (pQQ R Z y))]) w) := by
 have g := t8b S;have f := t8b R;have O := hid fun w G => rOa (x + S.tmod 8) (halfD Z : Int) (x + S.tmod 8) (halfD Z) (halfD Z : Int) rfl (by cases Z <;> decide) (by omega) (by cases Z <;> decide) (.inl ⟨rfl, rfl⟩) w G
 have N := hid fun w G => rOa (y + R.tmod 8) (halfD Z : Int) (y + R.tmod 8) (halfD Z) (halfD Z : Int) rfl (by cases Z <;> decide) (by omega) (by cases Z <;> decide) (.inl ⟨rfl, rfl⟩) w G
 unfold pQQ;obtain ⟨o, k⟩ : ∃ p, p = mkRat (x + S.tmod 8) (halfD Z) := ⟨_, rfl⟩;obtain ⟨n, j⟩ : ∃ p, p = mkRat (y + R.tmod 8) (halfD Z) := ⟨_, rfl⟩;rw [<- k] at O ⊢;rw [<- j] at N ⊢;obtain ⟨s, z⟩ : ∃ m, m = S.tmod 8 := ⟨_, rfl⟩;obtain ⟨q, t⟩ : ∃ m, m = R.tmod 8 := ⟨_, rfl⟩;rw [<- z] at O g;rw [<- t] at N f;have h3 : IntKind.i8.wrap s = s := by unfold IntKind.wrap; simp [IntKind.signed, IntKind.bits]; omega
 have h4 : IntKind.i8.wrap q = q := by unfold IntKind.wrap; simp [IntKind.signed, IntKind.bits]; omega
 have h0 : IntKind.i64.wrap s = s := IntWalk.i64_in _ (by omega);have h2 : IntKind.i64.wrap q = q := IntWalk.i64_in _ (by omega);have h5 : IntKind.i64.wrap x = x := IntWalk.i64_in _ (by omega);have h7 : IntKind.i64.wrap y = y := IntWalk.i64_in _ (by omega);have h6 : IntKind.i64.wrap (x + s) = x + s := IntWalk.i64_in _ (by omega);have h8 : IntKind.i64.wrap (y + q) = y + q := IntWalk.i64_in _ (by omega);have c := z.symm;have b := t.symm;clear k j z t;cases Z
 ·dsimp only [halfD] at O N
  go_enter Tryz.func24, Tryz.ntmps24;go_wp2_with fail;obtain ⟨W, M⟩ := zex (((w.alloc (.cells #[.int .u8 H, .int .i8 S, .int .i8 R, .bool false] 25)).alloc (.cells #[.int .i8 x, .int .i8 y] 23)).alloc (.cells #[.string ⟨#[]⟩, .string ⟨#[]⟩] 50));have I : Below w.heap.size w W := by rw [M]; exact (((Below.refl _ _).alloc (Nat.le_refl _) _).alloc (by simp) _).alloc (by simp; omega) _
  have E : BoxN W w.heap.size 25 [.int .u8 H, .int .i8 S, .int .i8 R, .bool false] := by
   rw [M];have J := (BoxN.new w #[.int .u8 H, .int .i8 S, .int .i8 R, .bool false] 25 _ rfl);exact (J.below ((Below.refl _ _).alloc (Nat.le_refl _) _) J.lt).below ((Below.refl _ _).alloc (Nat.le_refl _) _) (by simp; omega)
  have D : BoxN W (w.heap.size + 1) 23 [.int .i8 x, .int .i8 y] := by
   rw [M];have J := (BoxN.new (w.alloc (.cells #[.int .u8 H, .int .i8 S, .int .i8 R, .bool false] 25)) #[.int .i8 x, .int .i8 y] 23 (w.heap.size + 1) (by simp));exact J.below (zal _ _) J.lt
  have C : BoxN W (w.heap.size + 2) 50 [.string ⟨#[]⟩, .string ⟨#[]⟩] := by rw [M]; exact BoxN.new _ _ _ _ (by simp)
  rw [<- M];clear M;refine (O.out W (G.below I)).mono ?_;rintro e d ⟨_, rfl, rfl, Y⟩;have U := I.trans (Y.mono I.size);have L := E.below Y E.lt;have K := D.below Y D.lt;have Q := C.below Y C.lt;have c0 := K.cell 1 rfl;have c1 := L.cell 2 rfl;clear E D C Y I;go_wp2_with fail;refine (N.out d (G.below U)).mono ?_;rintro e w2 ⟨_, rfl, rfl, V⟩;have B := U.trans (V.mono U.size);have X := Q.below V Q.lt;have a := X.cell 0 rfl;have d1 := X.cell 1 rfl;have d2 := X.frozen 0;have d3 := X.frozen 1;clear c0 c1 L K Q V U;go_wp2_with fail;have l := (X.set 0 (.string (RS o))).set 1 (.string (RS n));have A := (B.setCell (p := ⟨w.heap.size + 2, 0, none⟩) (by show w.heap.size <= w.heap.size + 2; omega) (.string (RS o))).setCell (p := ⟨w.heap.size + 2, 1, none⟩) (by show w.heap.size <= w.heap.size + 2; omega) (.string (RS n));have i := l.cell 0 rfl;have h := l.cell 1 rfl;exact bodyPost_ret (v := .agg #[.string (RS o), .string (RS n)]) (by simp [results, Tryz.results24, go_sem, i, h]) rfl ⟨_, rfl, rfl, A⟩
 ·dsimp only [halfD] at O N
  go_enter Tryz.func24, Tryz.ntmps24;go_wp2_with fail;obtain ⟨W, M⟩ := zex (((w.alloc (.cells #[.int .u8 H, .int .i8 S, .int .i8 R, .bool true] 25)).alloc (.cells #[.int .i8 x, .int .i8 y] 23)).alloc (.cells #[.string ⟨#[]⟩, .string ⟨#[]⟩] 50));have I : Below w.heap.size w W := by rw [M]; exact (((Below.refl _ _).alloc (Nat.le_refl _) _).alloc (by simp) _).alloc (by simp; omega) _
  have E : BoxN W w.heap.size 25 [.int .u8 H, .int .i8 S, .int .i8 R, .bool true] := by
   rw [M];have J := (BoxN.new w #[.int .u8 H, .int .i8 S, .int .i8 R, .bool true] 25 _ rfl);exact (J.below ((Below.refl _ _).alloc (Nat.le_refl _) _) J.lt).below ((Below.refl _ _).alloc (Nat.le_refl _) _) (by simp; omega)
  have D : BoxN W (w.heap.size + 1) 23 [.int .i8 x, .int .i8 y] := by
   rw [M];have J := (BoxN.new (w.alloc (.cells #[.int .u8 H, .int .i8 S, .int .i8 R, .bool true] 25)) #[.int .i8 x, .int .i8 y] 23 (w.heap.size + 1) (by simp));exact J.below (zal _ _) J.lt
  have C : BoxN W (w.heap.size + 2) 50 [.string ⟨#[]⟩, .string ⟨#[]⟩] := by rw [M]; exact BoxN.new _ _ _ _ (by simp)
  rw [<- M];clear M;refine (O.out W (G.below I)).mono ?_;rintro e d ⟨_, rfl, rfl, Y⟩;have U := I.trans (Y.mono I.size);have L := E.below Y E.lt;have K := D.below Y D.lt;have Q := C.below Y C.lt;have c0 := K.cell 1 rfl;have c1 := L.cell 2 rfl;clear E D C Y I;go_wp2_with fail;refine (N.out d (G.below U)).mono ?_;rintro e w2 ⟨_, rfl, rfl, V⟩;have B := U.trans (V.mono U.size);have X := Q.below V Q.lt;have a := X.cell 0 rfl;have d1 := X.cell 1 rfl;have d2 := X.frozen 0;have d3 := X.frozen 1;clear c0 c1 L K Q V U;go_wp2_with fail;have l := (X.set 0 (.string (RS o))).set 1 (.string (RS n));have A := (B.setCell (p := ⟨w.heap.size + 2, 0, none⟩) (by show w.heap.size <= w.heap.size + 2; omega) (.string (RS o))).setCell (p := ⟨w.heap.size + 2, 1, none⟩) (by show w.heap.size <= w.heap.size + 2; omega) (.string (RS n));have i := l.cell 0 rfl;have h := l.cell 1 rfl;exact bodyPost_ret (v := .agg #[.string (RS o), .string (RS n)]) (by simp [results, Tryz.results24, go_sem, i, h]) rfl ⟨_, rfl, rfl, A⟩
def sPP (k : Nat) (s0 s1 : Int) (half : Bool) : List PtQ := (sc0 k).map fun p => (pQQ s0 half p.1, pQQ s1 half p.2)
theorem sPs (k : Nat) : ∀ p ∈ sc0 k, (0 <= p.1 /\ p.1 <= 6) /\ (0 <= p.2 /\ p.2 <= 6) := by
 unfold sc0;split <;> decide
theorem sd0 (k : Nat) : (sc0 k).length <= 6 := by
 unfold sc0;split <;> decide
theorem iPt : ((Tryz.prog).info? 50).map (fun i => (i.zero, i.size, i.bytes)) = some (some (.agg #[.string ⟨#[]⟩, .string ⟨#[]⟩]), 2, 32) := by kernel_rfl
theorem tsr (x y : ByteArray) : ∀ u ∈ [Value.string x, .string y], u.oneCell' = true := by
 intro u Z;simp at Z;rcases Z with rfl | rfl <;> rfl
theorem me0 (w : World) (H R O : Int) (Z : Bool) (k : Nat) (hk : H.tmod 8 = (k : Int)) (h9 : 0 <= H) (ha : H <= 255) (he : -128 <= R /\ R <= 127) (hf : -128 <= O /\ O <= 127) (d : Good w) :
 Calls Tryz.prog 6 #[.agg #[.int .u8 H, .int .i8 R, .int .i8 O, .bool Z]] w (Ret (fun r w' => ∃ vp vt, r = .agg #[vp, vt] /\ RdP w' vp (strP (sPP k R O Z)) /\ RdT w' vt (sa0 k)) w) := by
 obtain ⟨i0, hi, hF, hG, hH⟩ := info_parts iPt;have b := hid fun w d => sw0 w H k hk h9 ha d;have a := hid (sPs k);have hS := sd0 k;have c : Hid (∀ (i : Nat) (h : i < (sc0 k).length) (w : World), Good w -> _) := fun i h w d => pl0 w H R O Z (sc0 k)[i].1 (sc0 k)[i].2 he hf (by have := sPs k _ (List.getElem_mem h); omega) (by have := sPs k _ (List.getElem_mem h); omega) d
 have h2 : Hid (sPP k R O Z = (sc0 k).map fun p => (pQQ R Z p.1, pQQ O Z p.2)) := rfl;generalize sPP k R O Z = Q at *;generalize sc0 k = N at *;generalize sa0 k = T at *;clear hk h9 ha he hf;go_enter Tryz.func6, Tryz.ntmps6;go_wp2_with fail;obtain ⟨W, hW⟩ := zex ((w.alloc (.cells #[.int .u8 H, .int .i8 R, .int .i8 O, .bool Z] 25)).alloc (.cells #[.slice none 0 0, .slice none 0 0] 35));have hB : Below w.heap.size w W := by rw [hW]; exact zal2 _ _ _
 have b1 : BoxN W w.heap.size 25 [.int .u8 H, .int .i8 R, .int .i8 O, .bool Z] := by
  rw [hW];have h1 := (BoxN.new w #[.int .u8 H, .int .i8 R, .int .i8 O, .bool Z] 25 _ rfl);exact h1.below (zal _ _) h1.lt
 have b2 : BoxN W (w.heap.size + 1) 35 [.slice none 0 0, .slice none 0 0] := by rw [hW]; exact BoxN.new _ _ _ _ (by simp)
 rw [<- hW];clear hW;have c0 := b1.cell 0 rfl;go_wp2_with fail;refine (b.out W (d.below hB)).mono ?_;rintro e Y ⟨_, rfl, ⟨vn, vt, rfl, hN, hT⟩, A⟩;have C := zbt hB A;have h3 := b1.below A b1.lt;have h4 := b2.below A b2.lt;clear A hB b1 b2 c0 b;obtain ⟨pn, cn, rfl, hU, hV, hd⟩ := hN.open;have hr := hid hd;have HT := hid hT;obtain ⟨s, D, rfl, _, _, _⟩ := hT.open;clear hN hT hd;go_wp2_with fail;obtain ⟨W2, B⟩ : ∃ W, W = Y.alloc (.cells #[.slice none 0 0, .slice s T.length D] 35) := ⟨_, rfl⟩;have h7 : Below Y.heap.size Y W2 := by rw [B]; exact zal _ _
 have b5 : BoxN W2 Y.heap.size 35 [.slice none 0 0, .slice s T.length D] := by rw [B]; exact BoxN.new _ _ _ _ rfl
 have hP := zbt C h7;have hz := h3.lt;have hA := h4.lt;have hC := b5.lt;rw [<- B];clear B;have ho := hid h3;go_loopw [6] (fun t6 wr => ∃ (i : Nat) (v : Value), t6 = .int .i64 i /\ i <= N.length /\ BoxN wr Y.heap.size 35 [v, .slice s T.length D] /\ wr.ownsRow (Y.heap.size + 1) 50 2 v i (cPP (strP (Q.take i))) /\ Below Y.heap.size Y wr /\ Y.heap.size + 1 <= wr.heap.size) (fun t6 _ => N.length - (RowKit.intOf t6).toNat)
 case atStart => exact ⟨0, _, rfl, Nat.zero_le _, b5, World.ownsRow_nil _ _ _ _, h7, hC⟩
 case round =>
  obtain ⟨i, v, rfl, hR, X, I, t, z2⟩ := hrel;obtain ⟨G, K, rfl⟩ := oRs I;rcases Nat.lt_or_ge i N.length with h | h
  ·obtain ⟨bn, on, rfl, h8, o⟩ := hr.out (by intro e; rw [e] at h; simp at h)
   obtain ⟨n0, n1⟩ := o i h;obtain ⟨⟨e0, e1⟩, e2, e3⟩ := a.out _ (List.getElem_mem h);have HQ : Hid (Q.take (i + 1) = Q.take i ++ [(pQQ R Z N[i].1, pQQ O Z N[i].2)]) := tsc _ _ _ (by rw [h2.out, List.getElem?_map, List.getElem?_eq_getElem h]; rfl);have l := hid (c.out i h);obtain ⟨⟨x, y⟩, hm⟩ : ∃ q, q = N[i] := ⟨_, rfl⟩;rw [<- hm] at n0 n1 e0 e1 e2 e3 l HQ;dsimp only at n0 n1 e0 e1 e2 e3 l HQ;generalize pQQ R Z x = px at *;generalize pQQ O Z y = py at *;have hX : IntKind.i8.wrap x = x := by unfold IntKind.wrap; simp [IntKind.signed, IntKind.bits]; omega
   have hY : IntKind.i8.wrap y = y := by unfold IntKind.wrap; simp [IntKind.signed, IntKind.bits]; omega
   have z0 := X.cell 0 rfl;have z1 := X.frozen 0;have hM : (i : Int) < (N.length : Int) := by omega
   clear o hm c a;go_upto_region 6 with fail;have HF : Hid (∀ w', Below Y.heap.size Y w' -> w'.cell? ⟨w.heap.size, 0, none⟩ = some (.int .u8 H) /\ w'.cell? ⟨w.heap.size, 1, none⟩ = some (.int .i8 R) /\ w'.cell? ⟨w.heap.size, 2, none⟩ = some (.int .i8 O) /\ w'.cell? ⟨w.heap.size, 3, none⟩ = some (.bool Z) /\ w'.cell? ⟨bn, on + i * 2, none⟩ = some (.int .i64 x) /\ w'.cell? ⟨bn, on + i * 2 + 1, none⟩ = some (.int .i64 y)) := fun w' hb => by
    have E := ho.out.below hb hz;exact ⟨E.cell 0 rfl, E.cell 1 rfl, E.cell 2 rfl, E.cell 3 rfl, (zcq hb h8 n0 :), (zcq hb h8 n1 :)⟩
   have h0 : Below Y.heap.size Y wr.drew := t.trans ((bdN wr 1).mono (by omega));have hx : Good wr.drew := (d.below C).below h0;have hp : Hid (∀ L, Below wr.drew.heap.size wr.drew L -> Below Y.heap.size Y L /\ L.cell? ⟨Y.heap.size, 0, none⟩ = some (.slice G i K) /\ L.frozen? ⟨Y.heap.size, 0, none⟩ = false /\ L.ownsRow (Y.heap.size + 1) 50 2 (.slice G i K) i (cPP (strP (Q.take i))) /\ wr.heap.size <= L.heap.size /\ BoxN L Y.heap.size 35 [.slice G i K, .slice s T.length D]) := fun L z => by
    have V : Below wr.heap.size wr L := (bdN wr 1).trans z;exact ⟨h0.trans (z.mono (by show Y.heap.size <= wr.heap.size; omega)), (zcq V X.lt z0 :), (V.frozen (p := ⟨Y.heap.size, 0, none⟩) X.lt).trans z1, WRA I V, V.size, X.below V X.lt⟩
   clear n0 n1;rw [show Op.load 32 (.tmp 21) = id (Op.load 32 (.tmp 21)) from rfl];go_region_held3 (fun w' => w'.cell? ⟨w.heap.size, 0, none⟩ = some (.int .u8 H) /\ w'.cell? ⟨w.heap.size, 1, none⟩ = some (.int .i8 R) /\ w'.cell? ⟨w.heap.size, 2, none⟩ = some (.int .i8 O) /\ w'.cell? ⟨w.heap.size, 3, none⟩ = some (.bool Z) /\ w'.cell? ⟨bn, on + i * 2, none⟩ = some (.int .i64 x) /\ w'.cell? ⟨bn, on + i * 2 + 1, none⟩ = some (.int .i64 y))
    ((refine HF.out _ ?_; first | with_reducible assumption | exact hl | exact m))
    (first
      | (refine step_append_lies _ (by rfl) (.tmp 22) (.tmp 38) 32 (by rfl) (Y.heap.size + 1) 50 i0 (.agg #[.string ⟨#[]⟩, .string ⟨#[]⟩]) 2 32 Tryz.underlying32 hi hF hG hH rfl (by decide) _ i _ (by simp [Act.eval]) (S.alloc _) ⟨L.heap.size, 0, none⟩ 1 1 [.string (RS px), .string (RS py)] (by simp [Act.eval]) rfl (cto _ _ _ _) (tsr _ _) (by omega) (by unfold maxLen; omega) (by omega) (by simp; omega) _ rfl ?_
         intro g5 h6 w5 g U hL hO;have J : some Y.heap.size ≠ (Value.slice G i K).ownBlock := fun e => by have := (S.lt _ e.symm).1; omega
         have z5 := (U.cell_far ⟨Y.heap.size, 0, none⟩ (by simp; omega) J).trans (cal _ f);have z4 := (U.frozen_far ⟨Y.heap.size, 0, none⟩ (by simp; omega) J).trans (fal _ f hK);have hu : BoxN w5 Y.heap.size 35 [.slice G i K, .slice s T.length D] := (U.block Y.heap.size (by simp; omega) J).trans (h5.below ((Below.refl _ _).alloc (Nat.le_refl _) _) h5.lt);have hE : Below Y.heap.size Y w5 := (hh.alloc (by omega) _).grown U (by simp; omega) (fun j hj => by have := (S.lt j hj).1; omega);have m : Below Y.heap.size Y (w5.setCell ⟨Y.heap.size, 0, none⟩ (.slice (some ⟨g5, 0, none⟩) (i + 1) h6)) := hE.setCell (Nat.le_refl _) _;have hJ := U.size)
      | (go_at_call 24; refine (l.out _ hx).mono ?_; rintro e L ⟨_, rfl, rfl, z⟩
         obtain ⟨hh, f, hK, S, hZ, h5⟩ := hp.out _ z;have z3 := cal (.cells #[.string (RS px), .string (RS py)] 50) f;have hl : Below Y.heap.size Y (L.alloc (.cells #[.string (RS px), .string (RS py)] 50)) := hh.alloc (by omega) _))
   all_goals
    go_wp2_with fail;go_roundw
    case rel => exact ⟨i + 1, _, by simp, by omega, hu.set 0 _, by rw [HQ.out, show cPP (strP (Q.take i ++ [(px, py)])) = cPP (strP (Q.take i)) ++ [.string (RS px), .string (RS py)] by simp [cPP, strP]]; exact ownsRow_setCell_below g (by show Y.heap.size < Y.heap.size + 1; omega) _, m, by simp [World.setCell] at hJ ⊢; omega⟩
    case measure =>
     show N.length - ((i : Int) + 1).toNat < N.length - (i : Int).toNat;omega
  ·obtain rfl : i = N.length := by omega
   have hs : Hid (RdP wr (.slice G N.length K) (strP Q)) := by
    have h1 : RdC 2 wr (.slice G N.length K) N.length (cPP (strP (Q.take N.length))) := RdC.of_owns I;have hD : Q.length = N.length := by rw [h2.out, List.length_map]
    rw [List.take_of_length_le (by omega)] at h1;unfold Hid RdP;rw [sPl, hD];exact h1
   have ht : Hid (RdT wr (.slice s T.length D) T) := RdC.below HT.out t;have M := h4.below t hA;have z0 := X.cell 0 rfl;have z1 := X.cell 1 rfl;have y0 := M.cell 0 rfl;have y1 := M.cell 1 rfl;have y2 := M.frozen 0;have y3 := M.frozen 1;have hw : Below w.heap.size w wr := C.trans (t.mono (by have := C.size; omega));go_wp2_with fail;have BF := (M.set 0 (.slice G N.length K)).set 1 (.slice s T.length D);have hv := (hw.setCell (p := ⟨w.heap.size + 1, 0, none⟩) (by show w.heap.size <= w.heap.size + 1; omega) (.slice G N.length K)).setCell (p := ⟨w.heap.size + 1, 1, none⟩) (by show w.heap.size <= w.heap.size + 1; omega) (.slice s T.length D);have g0 := BF.cell 0 rfl;have g1 := BF.cell 1 rfl;have hc : ∀ y ∈ cPP (strP Q), y ≠ .slice none 0 0 := by
    intro y hy;unfold cPP at hy;obtain ⟨q, _, hq⟩ := List.mem_flatMap.1 hy;simp at hq;rcases hq with rfl | rfl <;> simp
   have n : ∀ y ∈ cTT T, y ≠ .slice none 0 0 := by
    intro y hy;unfold cTT at hy;obtain ⟨q, _, hq⟩ := List.mem_flatMap.1 hy;simp at hq;rcases hq with rfl | rfl | rfl <;> simp
   have hn := (M.set 0 (.slice G N.length K)).cell 1 rfl;exact bodyPost_ret (v := .agg #[.slice G N.length K, .slice s T.length D]) (by simp [results, Tryz.results6, go_sem, g0, g1]) rfl ⟨_, rfl, ⟨_, _, rfl, RdC.set_other (RdC.set_other hs.out y0 hc) hn hc, RdC.set_other (RdC.set_other ht.out y0 n) hn n⟩, hv⟩
def hQQ (hs : List Int) (half : Bool) (i : Nat) : Rat := mkRat ((hs[i % 6]?.getD 0).tmod 20) (halfD half)
def hFF (hs : List Int) (half : Bool) (n : Nat) : List Rat := (List.range n).map (hQQ hs half)
theorem hFl (Y : List Int) (Z : Bool) (n : Nat) : (hFF Y Z n).length = n := by simp [hFF]
theorem hFg (Y : List Int) (Z : Bool) (n i : Nat) (h : i < n) : (hFF Y Z n)[i]? = some (hQQ Y Z i) := by
 unfold hFF;rw [List.getElem?_map, List.getElem?_range h]; rfl
theorem t2b (s : Int) : -19 <= s.tmod 20 /\ s.tmod 20 <= 19 := by
 rcases Int.le_total 0 s with h | h
 ·rw [Int.tmod_eq_emod_of_nonneg h]; omega
 ·have Z : s.tmod 20 = -((-s).tmod 20) := by rw [Int.neg_tmod]; omega
  rw [Z, Int.tmod_eq_emod_of_nonneg (by omega)];omega
theorem m1a (w : World) (s : Option Addr) (n D : Nat) (o : Value) (K J M I H G : Int) (Z : Bool) (hb : ∀ x ∈ [K, J, M, I, H, G], -128 <= x /\ x <= 127) (hn : n <= 6) (hg : Good w) :
 Calls Tryz.prog 7 #[.agg #[.slice s n D, o], .agg #[.int .i8 K, .int .i8 J, .int .i8 M, .int .i8 I, .int .i8 H, .int .i8 G, .bool Z]] w (Ret (fun r w' => RdQ w' r (hFF [K, J, M, I, H, G] Z n) /\ FreshV w.heap.size r) w) := by
 obtain ⟨i0, hi, hc, hd, he⟩ := info_parts isr;obtain ⟨S, b⟩ := zex ([K, J, M, I, H, G] : List Int);have h8 := hid b;rw [<- b] at hb ⊢;have h5 : Hid (∀ i, -128 <= S[i % 6]?.getD 0 /\ S[i % 6]?.getD 0 <= 127) := fun i => by
  cases hx : S[i % 6]? with
  | none => simp
  | some x => exact hb x (List.mem_of_getElem? hx)
 clear hb;clear b;have k : Hid (∀ (i : Nat) (w : World), Good w -> _) := fun i w hg => oQa ((S[i % 6]?.getD 0).tmod 20) (halfD Z : Int) ((S[i % 6]?.getD 0).tmod 20) (halfD Z) (halfD Z : Int) rfl (by cases Z <;> decide) (by have := t2b (S[i % 6]?.getD 0); omega) (by cases Z <;> decide) (.inl ⟨rfl, rfl⟩) w hg
 have m : Hid (∀ i, mkRat ((S[i % 6]?.getD 0).tmod 20) (halfD Z) = hQQ S Z i) := fun i => rfl;have HG : Hid (∀ i, i < n -> (hFF S Z n)[i]? = some (hQQ S Z i)) := fun i h => hFg S Z n i h;have h7 : Hid ((hFF S Z n).length = n) := hFl _ _ _;generalize hFF S Z n = F at *;cases Z
 ·dsimp only [halfD] at k m
  go_enter Tryz.func7, Tryz.ntmps7;go_wp2_with fail;obtain ⟨W, O⟩ := zex (((w.alloc (.cells #[.slice s n D, o] 35)).alloc (.cells #[.int .i8 K, .int .i8 J, .int .i8 M, .int .i8 I, .int .i8 H, .int .i8 G, .bool false] 28)).alloc (.cells #[] 40));have hB : Below w.heap.size w W := by rw [O]; exact (((Below.refl _ _).alloc (Nat.le_refl _) _).alloc (by simp) _).alloc (by simp; omega) _
  have b2 : BoxN W w.heap.size 35 [.slice s n D, o] := by
   rw [O];have Q := (BoxN.new w #[.slice s n D, o] 35 _ rfl);exact (Q.below ((Below.refl _ _).alloc (Nat.le_refl _) _) Q.lt).below ((Below.refl _ _).alloc (Nat.le_refl _) _) (by simp; omega)
  have L : BoxN W (w.heap.size + 1) 28 [.int .i8 K, .int .i8 J, .int .i8 M, .int .i8 I, .int .i8 H, .int .i8 G, .bool false] := by
   rw [O];have Q := (BoxN.new (w.alloc (.cells #[.slice s n D, o] 35)) #[.int .i8 K, .int .i8 J, .int .i8 M, .int .i8 I, .int .i8 H, .int .i8 G, .bool false] 28 (w.heap.size + 1) (by simp));exact Q.below (zal _ _) Q.lt
  have h0 : W.ownsRow (w.heap.size + 2) 40 1 (.slice (some ⟨w.heap.size + 2, 0, none⟩) 0 0) 0 ([] : List Value) := by
   rw [O];have := World.ownsRow_lit (base := w.heap.size + 2) (e := 40) (size := 1) ((w.alloc (.cells #[.slice s n D, o] 35)).alloc (.cells #[.int .i8 K, .int .i8 J, .int .i8 M, .int .i8 I, .int .i8 H, .int .i8 G, .bool false] 28)) #[] 0 (by simp) (by decide) rfl;simpa using this
  have hh : W.heap.size = w.heap.size + 3 := by rw [O]; simp
  rw [<- O];clear O;have HC : Hid (∀ i, i < 6 -> W.cell? ⟨w.heap.size + 1, i, none⟩ = some (.int .i8 (S[i % 6]?.getD 0))) := fun i h6 => by
   rw [h8.out];rcases (by omega : i = 0 \/ i = 1 \/ i = 2 \/ i = 3 \/ i = 4 \/ i = 5) with rfl | rfl | rfl | rfl | rfl | rfl
   ·exact L.cell 0 rfl
   ·exact L.cell 1 rfl
   ·exact L.cell 2 rfl
   ·exact L.cell 3 rfl
   ·exact L.cell 4 rfl
   ·exact L.cell 5 rfl
  have c0 := b2.cell 0 rfl;go_loopw [5, 7] (fun t5 t7 wr => ∃ (i : Nat), t7 = .int .i64 i /\ i <= n /\ wr.ownsRow (w.heap.size + 2) 40 1 t5 i ((F.take i).map fun q => Value.string (RS q)) /\ Below (w.heap.size + 2) W wr /\ w.heap.size + 2 <= wr.heap.size) (fun _ t7 _ => n - (RowKit.intOf t7).toNat)
  case atStart => exact ⟨0, rfl, Nat.zero_le _, h0, Below.refl _ _, by omega⟩
  case round =>
   obtain ⟨i, rfl, ho, X, V, y⟩ := hrel;obtain ⟨p5, f, rfl⟩ := oRs X;have x0 := zcq V (by show w.heap.size < w.heap.size + 2; omega) c0;have A : Below w.heap.size w wr := hB.trans (V.mono (by omega));rcases Nat.lt_or_ge i n with h | h
   ·have xi := (V.cell (p := ⟨w.heap.size + 1, i, none⟩) (by show w.heap.size + 1 < w.heap.size + 2; omega)).trans (HC.out i (by omega))
    have g := hid (tsc _ _ _ (HG.out i h));have E := hid (k.out i);rw [m.out i] at E;have hk := t2b (S[i % 6]?.getD 0);obtain ⟨hp, hq⟩ := h5.out i;generalize hQQ S false i = q at *;generalize S[i % 6]?.getD 0 = v at *;have ht : IntKind.i64.wrap v = v := IntWalk.i64_in _ (by omega);have hr : IntKind.i64.wrap (v.tmod 20) = v.tmod 20 := IntWalk.i64_in _ (by omega);have ha : IntKind.i64.wrap ((i : Int).tmod 6) = (i : Int) := by
     rw [Int.tmod_eq_emod_of_nonneg (by omega), Int.emod_eq_of_lt (by omega) (by omega)];exact IntWalk.i64_in _ (by omega)
    have h3 : (i : Int).tmod 6 = (i : Int) := by rw [Int.tmod_eq_emod_of_nonneg (by omega), Int.emod_eq_of_lt (by omega) (by omega)]
    have h4 : (i : Int) % 6 = (i : Int) := Int.emod_eq_of_lt (by omega) (by omega);have hm : (i : Int) < 6 := by omega
    have h9 : (i : Int) < (n : Int) := by omega
    have z : Good wr := hg.below A;clear c0 HC;go_wp2_with fail;refine (E.out wr z).mono ?_;rintro e w2 ⟨_, rfl, rfl, R⟩;have U := WRA X R;have C : Below (w.heap.size + 2) W w2 := V.trans (R.mono y);have hf : w.heap.size + 2 <= w2.heap.size := Nat.le_trans y R.size;clear R X V z x0 xi
    go_wp2_with (at_builtin; refine wpList_append_own _ rfl _ _ 38 rfl (w.heap.size + 2) 40 i0 (.string ⟨#[]⟩) 1 16 Tryz.underlying38 hi hc hd he rfl (by decide) _ _ _ rfl (U.alloc _) ⟨w2.heap.size, 0, none⟩ 1 1 [.string (RS q)] rfl rfl (cos _ _ _) (ocs _) (by unfold maxLen; omega) (by omega) (by simp; omega) ?_
                 intro M w3 N Y _;have t := Y.size;have B : Below (w.heap.size + 2) W w3 := (C.alloc (by omega) _).grown Y (by simp; omega) (fun j hj => by have := (U.lt j hj).1; omega);clear Y)
    go_roundw
    case rel => exact ⟨i + 1, by simp, by omega, by rw [g.out, List.map_append]; exact N, B, by simp at t; omega⟩
    case measure =>
     show n - ((i : Int) + 1).toNat < n - (i : Int).toNat;omega
   ·obtain rfl : i = n := by omega
    have d : FreshV (w.heap.size + 2) (.slice p5 i f) := FreshV.of_owns X;have h2 : RdQ wr (.slice p5 i f) F := by
     have Q : RdC 1 wr (.slice p5 i f) i ((F.take i).map fun q => Value.string (RS q)) := RdC.of_owns X;have hl := h7.out;rw [List.take_of_length_le (by omega)] at Q;unfold RdQ;rw [hl];exact Q
    go_wp2_with fail;go_ret;exact ⟨_, rfl, ⟨h2, fun a l c e => by have := d a l c e; omega⟩, A⟩
 ·dsimp only [halfD] at k m
  go_enter Tryz.func7, Tryz.ntmps7;go_wp2_with fail;obtain ⟨W, O⟩ := zex (((w.alloc (.cells #[.slice s n D, o] 35)).alloc (.cells #[.int .i8 K, .int .i8 J, .int .i8 M, .int .i8 I, .int .i8 H, .int .i8 G, .bool true] 28)).alloc (.cells #[] 40));have hB : Below w.heap.size w W := by rw [O]; exact (((Below.refl _ _).alloc (Nat.le_refl _) _).alloc (by simp) _).alloc (by simp; omega) _
  have b2 : BoxN W w.heap.size 35 [.slice s n D, o] := by
   rw [O];have Q := (BoxN.new w #[.slice s n D, o] 35 _ rfl);exact (Q.below ((Below.refl _ _).alloc (Nat.le_refl _) _) Q.lt).below ((Below.refl _ _).alloc (Nat.le_refl _) _) (by simp; omega)
  have L : BoxN W (w.heap.size + 1) 28 [.int .i8 K, .int .i8 J, .int .i8 M, .int .i8 I, .int .i8 H, .int .i8 G, .bool true] := by
   rw [O];have Q := (BoxN.new (w.alloc (.cells #[.slice s n D, o] 35)) #[.int .i8 K, .int .i8 J, .int .i8 M, .int .i8 I, .int .i8 H, .int .i8 G, .bool true] 28 (w.heap.size + 1) (by simp));exact Q.below (zal _ _) Q.lt
  have h0 : W.ownsRow (w.heap.size + 2) 40 1 (.slice (some ⟨w.heap.size + 2, 0, none⟩) 0 0) 0 ([] : List Value) := by
   rw [O];have := World.ownsRow_lit (base := w.heap.size + 2) (e := 40) (size := 1) ((w.alloc (.cells #[.slice s n D, o] 35)).alloc (.cells #[.int .i8 K, .int .i8 J, .int .i8 M, .int .i8 I, .int .i8 H, .int .i8 G, .bool true] 28)) #[] 0 (by simp) (by decide) rfl;simpa using this
  have hh : W.heap.size = w.heap.size + 3 := by rw [O]; simp
  rw [<- O];clear O;have HC : Hid (∀ i, i < 6 -> W.cell? ⟨w.heap.size + 1, i, none⟩ = some (.int .i8 (S[i % 6]?.getD 0))) := fun i h6 => by
   rw [h8.out];rcases (by omega : i = 0 \/ i = 1 \/ i = 2 \/ i = 3 \/ i = 4 \/ i = 5) with rfl | rfl | rfl | rfl | rfl | rfl
   ·exact L.cell 0 rfl
   ·exact L.cell 1 rfl
   ·exact L.cell 2 rfl
   ·exact L.cell 3 rfl
   ·exact L.cell 4 rfl
   ·exact L.cell 5 rfl
  have c0 := b2.cell 0 rfl;go_loopw [5, 7] (fun t5 t7 wr => ∃ (i : Nat), t7 = .int .i64 i /\ i <= n /\ wr.ownsRow (w.heap.size + 2) 40 1 t5 i ((F.take i).map fun q => Value.string (RS q)) /\ Below (w.heap.size + 2) W wr /\ w.heap.size + 2 <= wr.heap.size) (fun _ t7 _ => n - (RowKit.intOf t7).toNat)
  case atStart => exact ⟨0, rfl, Nat.zero_le _, h0, Below.refl _ _, by omega⟩
  case round =>
   obtain ⟨i, rfl, ho, X, V, y⟩ := hrel;obtain ⟨p5, f, rfl⟩ := oRs X;have x0 := zcq V (by show w.heap.size < w.heap.size + 2; omega) c0;have A : Below w.heap.size w wr := hB.trans (V.mono (by omega));rcases Nat.lt_or_ge i n with h | h
   ·have xi := (V.cell (p := ⟨w.heap.size + 1, i, none⟩) (by show w.heap.size + 1 < w.heap.size + 2; omega)).trans (HC.out i (by omega))
    have g := hid (tsc _ _ _ (HG.out i h));have E := hid (k.out i);rw [m.out i] at E;have hk := t2b (S[i % 6]?.getD 0);obtain ⟨hp, hq⟩ := h5.out i;generalize hQQ S true i = q at *;generalize S[i % 6]?.getD 0 = v at *;have ht : IntKind.i64.wrap v = v := IntWalk.i64_in _ (by omega);have hr : IntKind.i64.wrap (v.tmod 20) = v.tmod 20 := IntWalk.i64_in _ (by omega);have ha : IntKind.i64.wrap ((i : Int).tmod 6) = (i : Int) := by
     rw [Int.tmod_eq_emod_of_nonneg (by omega), Int.emod_eq_of_lt (by omega) (by omega)];exact IntWalk.i64_in _ (by omega)
    have h3 : (i : Int).tmod 6 = (i : Int) := by rw [Int.tmod_eq_emod_of_nonneg (by omega), Int.emod_eq_of_lt (by omega) (by omega)]
    have h4 : (i : Int) % 6 = (i : Int) := Int.emod_eq_of_lt (by omega) (by omega);have hm : (i : Int) < 6 := by omega
    have h9 : (i : Int) < (n : Int) := by omega
    have z : Good wr := hg.below A;clear c0 HC;go_wp2_with fail;refine (E.out wr z).mono ?_;rintro e w2 ⟨_, rfl, rfl, R⟩;have U := WRA X R;have C : Below (w.heap.size + 2) W w2 := V.trans (R.mono y);have hf : w.heap.size + 2 <= w2.heap.size := Nat.le_trans y R.size;clear R X V z x0 xi
    go_wp2_with (at_builtin; refine wpList_append_own _ rfl _ _ 38 rfl (w.heap.size + 2) 40 i0 (.string ⟨#[]⟩) 1 16 Tryz.underlying38 hi hc hd he rfl (by decide) _ _ _ rfl (U.alloc _) ⟨w2.heap.size, 0, none⟩ 1 1 [.string (RS q)] rfl rfl (cos _ _ _) (ocs _) (by unfold maxLen; omega) (by omega) (by simp; omega) ?_
                 intro M w3 N Y _;have t := Y.size;have B : Below (w.heap.size + 2) W w3 := (C.alloc (by omega) _).grown Y (by simp; omega) (fun j hj => by have := (U.lt j hj).1; omega);clear Y)
    go_roundw
    case rel => exact ⟨i + 1, by simp, by omega, by rw [g.out, List.map_append]; exact N, B, by simp at t; omega⟩
    case measure =>
     show n - ((i : Int) + 1).toNat < n - (i : Int).toNat;omega
   ·obtain rfl : i = n := by omega
    have d : FreshV (w.heap.size + 2) (.slice p5 i f) := FreshV.of_owns X;have h2 : RdQ wr (.slice p5 i f) F := by
     have Q : RdC 1 wr (.slice p5 i f) i ((F.take i).map fun q => Value.string (RS q)) := RdC.of_owns X;have hl := h7.out;rw [List.take_of_length_le (by omega)] at Q;unfold RdQ;rw [hl];exact Q
    go_wp2_with fail;go_ret;exact ⟨_, rfl, ⟨h2, fun a l c e => by have := d a l c e; omega⟩, A⟩
def sp0 (k : Nat) : List PtQ := (sc0 k).map fun p => ((p.1 : Rat), (p.2 : Rat))
def formB (P : List PtQ) (T : List Tri) : Bool :=
 !T.isEmpty && (decide P.Nodup && (T.all (fun t => (idxOf t).all fun x => decide (0 <= x /\ x < (P.length : Int))) && (T.all (fun t => decide (0 < turnZ (P[t.1.toNat]?.getD (0, 0)) (P[t.2.1.toNat]?.getD (0, 0)) (P[t.2.2.toNat]?.getD (0, 0)))) &&
  (wBB P T && (oLL (kOf T)).all fun x => decide (0 <= x /\ x < (P.length : Int))))))
theorem sfm (k : Nat) : formB (sp0 k) (sa0 k) = true := by
 unfold sp0 sc0 sa0;split <;> decide +kernel
theorem gDm (s t d : Rat) (P : List PtQ) (i : Nat) (h : i < P.length) : (P.map (moveP s t d))[i]?.getD (0, 0) = moveP s t d (P[i]?.getD (0, 0)) := by
 rw [List.getElem?_map, List.getElem?_eq_getElem h]; rfl
theorem pAm (s t d : Rat) (P : List PtQ) (c : List Int) (X : ∀ x ∈ c, 0 <= x /\ x < (P.length : Int)) (Z : c ≠ []) (i : Nat) : ptAt (P.map (moveP s t d)) c i = moveP s t d (ptAt P c i) := by
 unfold ptAt;have Y : i % c.length < c.length := Nat.mod_lt _ (List.length_pos_iff.2 Z);have := X c[i % c.length] (List.getElem_mem Y);rw [List.getElem?_eq_getElem Y, Option.getD_some];exact gDm s t d P _ (by omega)
theorem mPi (s t d : Rat) (V : 0 < d) {p q : PtQ} (h : moveP s t d p = moveP s t d q) : p = q := by
 unfold moveP at h;have Y := congrArg Prod.fst h;have X := congrArg Prod.snd h;dsimp only at Y X;have key : ∀ a b z : Rat, (a + z) * d = (b + z) * d -> a = b := fun a b z e => by
  have U : (a - b) * d = 0 := by grind
  rcases Rat.mul_eq_zero.1 U with Z | Z
  ·grind
  ·rw [Z] at V; exact absurd V (Rat.lt_irrefl)
 exact Prod.ext (key _ _ _ Y) (key _ _ _ X)
theorem fme (s t d : Rat) (U : 0 < d) (P : List PtQ) (T : List Tri) (h : formB P T = true) : formB (P.map (moveP s t d)) T = true := by
 unfold formB at *;simp only [Bool.and_eq_true, List.all_eq_true, decide_eq_true_eq, List.length_map] at *;obtain ⟨M, L, R, K, V, Q⟩ := h;have X : ∀ t ∈ T, ∀ x ∈ idxOf t, x.toNat < P.length := fun t ht x hx => by have := R t ht x hx; omega
 refine ⟨M, ?_, R, ?_, ?_, Q⟩
 ·exact List.Pairwise.map _ (fun a b hab e => hab (mPi s t d U e)) L
 ·intro tr Y
  have J := X tr Y tr.1 (by simp [idxOf]);have I := X tr Y tr.2.1 (by simp [idxOf]);have H := X tr Y tr.2.2 (by simp [idxOf]);rw [gDm _ _ _ _ _ J, gDm _ _ _ _ _ I, gDm _ _ _ _ _ H, tZm s t d U];exact K tr Y
 ·unfold wBB at *
  simp only [Bool.and_eq_true, List.length_map] at *;refine ⟨V.1, ⟨V.2.1.1, V.2.1.2⟩, ?_⟩;have S : oLL (kOf T) ≠ [] := by
   have := V.2.1.1;intro e;rw [e] at this;simp at this
  have Z := pAm s t d P (oLL (kOf T)) Q S;rw [<- V.2.2];unfold onceB rNN;have O : bAt (P.map (moveP s t d)) (oLL (kOf T)) = bAt P (oLL (kOf T)) := funext fun i => by unfold bAt; rw [Z, Z, Z, tZm s t d U]
  have N : rAt (P.map (moveP s t d)) (oLL (kOf T)) = rAt P (oLL (kOf T)) := funext fun i => by unfold rAt upAt; rw [Z, Z, Z, uBm s t d U, uBm s t d U]
  rw [O, N]
theorem MeshOK.of_form {P : List PtQ} {T : List Tri} {k : Nat} (R : 0 < k) (Z : k <= 200) (O : ∀ p ∈ P, SzP k p) (Q : P.length <= 400) (N : T.length <= 800) (h : formB P T = true) : MeshOK P T k := by
 unfold formB at h;simp only [Bool.and_eq_true, List.all_eq_true, decide_eq_true_eq] at h;obtain ⟨Y, X, V, U, S, M⟩ := h;exact { kpos := R, klim := by omega, sz := O, plen := Q, tlen := N, idx := V, klim2 := Z, some := by intro e; rw [e] at Y; simp at Y, apart := X, turns := U, whole := S }
theorem pQm (s : Int) (Z : Bool) (x : Int) : pQQ s Z x = ((x : Rat) + (s.tmod 8 : Int)) * (1 / (halfD Z : Rat)) := by
 unfold pQQ;have Y : (halfD Z : Rat) ≠ 0 := by cases Z <;> decide
 rw [Rat.mkRat_eq_div];grind
theorem pQS (s : Int) (Z : Bool) (x : Int) (hx : 0 <= x /\ x <= 6) : Sz 2 (pQQ s Z x) := by
 have := t8b s;exact Sz.mkRat (by cases Z <;> decide) (by omega) (by cases Z <;> decide)
theorem sok (k : Nat) (Y X : Int) (Z : Bool) : MeshOK (sPP k Y X Z) (sa0 k) 2 := by
 refine MeshOK.of_form (by omega) (by omega) ?_ ?_ ?_ ?_
 ·intro p V
  obtain ⟨q, hq, rfl⟩ := List.mem_map.1 V;have := sPs k q hq;exact ⟨pQS _ _ _ this.1, pQS _ _ _ this.2⟩
 ·unfold sPP
  have := sd0 k;rw [List.length_map]; omega
 ·unfold sa0
  split <;> decide
 ·have e : sPP k Y X Z = (sp0 k).map (moveP (Y.tmod 8 : Int) (X.tmod 8 : Int) (1 / (halfD Z : Rat))) := by
   unfold sPP sp0;rw [List.map_map];refine List.map_congr_left fun p _ => ?_;show (_, _) = moveP _ _ _ _;unfold moveP;rw [pQm, pQm]
  rw [e];exact fme _ _ _ (by cases Z <;> decide +kernel) _ _ (sfm k)
theorem sz1 (n : Nat) (h : n < 10) : Sz 1 ((n : Int) : Rat) := ⟨by rw [Rat.num_intCast]; omega, by rw [Rat.den_intCast]; omega⟩
theorem hSz (Y : List Int) (Z : Bool) (n : Nat) : ∀ q ∈ hFF Y Z n, Sz 2 q := fun q hq => by
 obtain ⟨i, _, rfl⟩ := List.mem_map.1 hq;unfold hQQ;have := t2b (Y[i % 6]?.getD 0);exact Sz.mkRat (by cases Z <;> decide) (by omega) (by cases Z <;> decide)
theorem sk0 (k : Nat) (Y X : Int) (Z : Bool) : (sPP k Y X Z).length = (sc0 k).length := by simp [sPP]
theorem sif (q : Rat) : q.num.sign = if q < 0 then -1 else if 0 < q then 1 else 0 := by
 split
 ·rename_i h; exact Int.sign_eq_neg_one_of_neg (num_lt_zero_iff.2 h)
 ·split
  ·rename_i h; exact Int.sign_eq_one_of_pos (num_pos_iff.2 h)
  ·rename_i h1 h2
   have : q = 0 := Rat.le_antisymm (Rat.not_lt.1 h2) (Rat.not_lt.1 h1);subst this; rfl
theorem gbw {W wr wx : World} {M : Option Nat} (h : W.grownBy wr M) (Z : Below wr.heap.size wr wx) : W.grownBy wx M :=
 ⟨Z.os.trans h.os, Z.tape.trans h.tape, Z.output.trans h.output, Nat.le_trans h.size Z.size, fun j hj hjn => (Z.block j (Nat.lt_of_lt_of_le hj h.size)).trans (h.block j hj hjn)⟩
theorem ggn {W wr wx : World} {M row : Option Nat} (h : W.grownBy wr M) (Z : wr.grownBy wx row) (Y : ∀ j, row = some j -> W.heap.size <= j) : W.grownBy wx M :=
 ⟨Z.os.trans h.os, Z.tape.trans h.tape, Z.output.trans h.output, Nat.le_trans h.size Z.size, fun j hj hjn => (Z.block j (Nat.lt_of_lt_of_le hj h.size) (fun e => by have := Y _ e.symm; omega)).trans (h.block j hj hjn)⟩
theorem gst {W wr : World} {M : Nat} (h : W.grownBy wr (some M)) (i : Nat) (v : Value) : W.grownBy (wr.setCell ⟨M, i, none⟩ v) (some M) :=
 ⟨h.os, h.tape, h.output, by simpa using h.size, fun j hj hjn => (Below.heap_setCell _ _ _ j (by rintro rfl; exact hjn rfl)).trans (h.block j hj hjn)⟩
theorem gac {W wr : World} {M : Option Nat} (h : W.grownBy wr M) (o : Obj) : W.grownBy (wr.alloc o) M :=
 gbw h ((Below.refl _ _).alloc (Nat.le_refl _) _)
theorem grl (W : World) (M : Option Nat) : W.grownBy W M := ⟨rfl, rfl, rfl, Nat.le_refl _, fun _ _ _ => rfl⟩
theorem BoxN.gb {w w' : World} {M : Option Nat} {b t : Nat} {l : List Value} (h : BoxN w b t l) (Z : w.grownBy w' M) (Y : M ≠ some b) : BoxN w' b t l := (Z.block b h.lt (fun e => Y e.symm)).trans h
theorem bgb {M : Nat} {w0 w w' : World} (h : Below w0.heap.size w0 w) (Z : w.grownBy w' (some M)) (Y : w0.heap.size <= M) : Below w0.heap.size w0 w' :=
 h.grown Z h.size (fun j e => by cases e; omega)
theorem RdC.gb {sz : Nat} {w w' : World} {v : Value} {n M t : Nat} {cs l : List Value} (h : RdC sz w v n cs) (K : w.grownBy w' (some M)) (N : BoxN w M t l) (V : ∀ y ∈ cs, y ∉ l) : RdC sz w' v n cs := by
 obtain ⟨p, q, G, U, S, R, Q⟩ := h;refine ⟨p, q, G, U, S, R, fun hn => ?_⟩;obtain ⟨b, off, I, H⟩ := Q hn;refine ⟨b, off, I, fun i x hx => ?_⟩;have Z := H i x hx;have Y : b ≠ M := by
  rintro rfl;have J : w.heap[b]? = some (.cells l.toArray t (0, 0)) := N;have O : l[off + i]? = some x := by
   simp [World.cell?, J] at Z;exact Z
  exact V x (List.mem_of_getElem? hx) (List.mem_of_getElem? O)
 have X : b < w.heap.size := by
  rcases Nat.lt_or_ge b w.heap.size with h | h
  ·exact h
  ·have : w.heap[b]? = none := Array.getElem?_eq_none h
   simp [World.cell?, this] at Z
 have L := K.block b X (by intro e; injection e with e; exact Y e);have : w'.cell? ⟨b, off + i, none⟩ = w.cell? ⟨b, off + i, none⟩ := by simp [World.cell?, L]
 rw [this]; exact Z
theorem cD0 (p : PtQ) (k : Nat) (h : SzP k p) (Y : 0 < k) (Z : k <= 200) (w : World) (U : Good w) :
 Calls Tryz.prog 32 #[.agg #[.string (RS p.1), .string (RS p.2)]] w (Ret (fun r _ => r = .int .i64 0) w) := by
 have R := h.1.size Y;have Q := h.2.size Y;refine (cPa (RS p.1) (RS p.2) (by omega) (by omega) w U).mono ?_;rintro e w' ⟨v, V, S, X⟩;exact ⟨v, V, by rw [S, h.right Z], X⟩
open Go.Shelf
attribute [local go_sem] Oper.semAt_some
theorem cTo (w : World) (V U : Value) (P : List PtQ) (T : List Tri) (k : Nat) (O : RdP w V (strP P)) (N : RdT w U T) (J : MeshOK P T k) (t : Nat) (M : t < T.length) (G : Good w) :
 Calls Tryz.prog 71 #[.agg #[V, U], .int .i64 (t : Int)] w (Ret (fun r _ => r = .int .i64 0) w) := by
 have S : Hid (∀ w', Below w.heap.size w w' -> Good w' -> Calls Tryz.prog 33 #[.agg #[V, U]] w' (Ret (fun r _ => r = .int .i64 0) w')) := fun w' hb hg' => ci0 w' V U P T k (RdC.below O hb) (RdC.below N hb) J hg';obtain ⟨I, L, rfl, -, -, -⟩ := O.open;obtain ⟨H, K, rfl, -, -, -⟩ := N.open;clear O N J;have E : (t : Int) < (T.length : Int) := by omega
 clear M;go_enter Tryz.func71, Tryz.ntmps71;go_wp2_with fail;obtain ⟨W, X⟩ := zex (w.alloc (.cells #[.slice I (strP P).length L, .slice H T.length K] 35));have Y : Below w.heap.size w W := by rw [X]; exact zal _ _
 have R : BoxN W w.heap.size 35 [.slice I (strP P).length L, .slice H T.length K] := by rw [X]; exact BoxN.new _ _ _ _ rfl
 rw [<- X];clear X;refine (S.out W Y (G.below Y)).mono ?_;rintro e D ⟨_, rfl, rfl, Z⟩;have Q := zbt Y Z;have b1 := R.below Z R.lt;have C := b1.cell 1 rfl;clear Z Y R b1;go_wp2_with fail;go_ret;exact ⟨_, rfl, rfl, Q⟩
theorem MeshOK.nodup {P : List PtQ} {T : List Tri} {k : Nat} (h : MeshOK P T k) : (kOf T).Nodup := by
 have := h.whole;unfold wBB at this;rw [Bool.and_eq_true] at this;exact of_decide_eq_true this.1
end Go.Proofs.YtbfcmipplhkkeaaGreatDoor
namespace Go.Proofs.YtbfcmipplhkkeaaGreatDoor
open Go.RowKit Go.Lib
theorem FreshV.mono {n m : Nat} {v : Value} (h : FreshV n v) (Z : m <= n) : FreshV m v := fun a l c e => Nat.le_trans Z (h a l c e)
theorem aQS {a b c : PtQ} {k : Nat} (Z : SzP k a) (Y : SzP k b) (X : SzP k c) : Sz (8 * k + 5) (areaQ a b c) := by
 unfold areaQ;exact (((Y.1.sub Z.1).mul (X.2.sub Z.2)).sub ((Y.2.sub Z.2).mul (X.1.sub Z.1))).mono (by omega)
theorem aQp {P : List PtQ} {T : List Tri} {k : Nat} (Y : MeshOK P T k) {tr : Tri} (X : tr ∈ T) : 0 < areaQ (ptI P tr.1) (ptI P tr.2.1) (ptI P tr.2.2) := by
 have h := Y.turns tr X;have Z := Y.idx tr X;have key : ∀ x ∈ idxOf tr, P[x.toNat]?.getD (0, 0) = ptI P x := fun x hx => by
  obtain ⟨V, U⟩ := Z x hx;obtain ⟨q, rfl⟩ : ∃ q : Nat, x = (q : Int) := ⟨x.toNat, by omega⟩;have : q < P.length := by omega
  rw [pIn P q this];simp [this]
 rw [key _ (by simp [idxOf]), key _ (by simp [idxOf]), key _ (by simp [idxOf])] at h;unfold turnZ at h;rw [sif] at h;split at h
 ·omega
 ·split at h
  ·assumption
  ·omega
theorem pIS {P : List PtQ} {T : List Tri} {k : Nat} (Y : MeshOK P T k) {tr : Tri} (X : tr ∈ T) : SzP k (ptI P tr.1) /\ SzP k (ptI P tr.2.1) /\ SzP k (ptI P tr.2.2) := by
 have Z := Y.idx tr X;have key : ∀ x ∈ idxOf tr, SzP k (ptI P x) := fun x hx => by
  obtain ⟨V, U⟩ := Z x hx;obtain ⟨q, rfl⟩ : ∃ q : Nat, x = (q : Int) := ⟨x.toNat, by omega⟩;rw [pIn P q (by omega)];exact Y.sz _ (List.getElem_mem _)
 exact ⟨key _ (by simp [idxOf]), key _ (by simp [idxOf]), key _ (by simp [idxOf])⟩
def lonT (P : List PtQ) (F : List Rat) (tr : Tri) (p : PtQ) : Rat :=
 (0 + areaQ p (ptI P tr.2.1) (ptI P tr.2.2) * hI F tr.1 + areaQ p (ptI P tr.2.2) (ptI P tr.1) * hI F tr.2.1 + areaQ p (ptI P tr.1) (ptI P tr.2.1) * hI F tr.2.2) / areaQ (ptI P tr.1) (ptI P tr.2.1) (ptI P tr.2.2)
theorem lTe {P : List PtQ} {F : List Rat} {tr : Tri} {p : PtQ} (h : areaQ (ptI P tr.1) (ptI P tr.2.1) (ptI P tr.2.2) ≠ 0) : lonT P F tr p = onQ P F tr p := by
 unfold lonT onQ sTT sQQ mQQ;unfold areaQ at *;generalize ptI P tr.1 = a at *;generalize ptI P tr.2.1 = b at *;generalize ptI P tr.2.2 = c at *;generalize hI F tr.1 = x;generalize hI F tr.2.1 = y;generalize hI F tr.2.2 = z;obtain ⟨Z, Y⟩ := a;obtain ⟨V, X⟩ := b;obtain ⟨U, S⟩ := c;obtain ⟨Q, O⟩ := p;dsimp only at *;have e : (V - Z) * (S - Y) - (X - Y) * (U - Z) = (V - Z) * (S - Y) - (X - Y) * (U - Z) := rfl;generalize hA : (V - Z) * (S - Y) - (X - Y) * (U - Z) = A at *;rw [Rat.div_def, Rat.div_def];have R := Rat.mul_inv_cancel A h;generalize A⁻¹ = i at *;grind
abbrev Cor := PtQ × Rat
def towQ (a b k : Rat) : Rat := a + k * (b - a)
theorem fay (a b x : Rat) (k : Nat) (J : 0 < k) (I : k <= 5000) (V : Sz k a) (R : Sz k b) (hx : Sz k x) (w : World) (Z : Good w) :
 Calls Tryz.prog 60 #[.string (RS a), .string (RS b), .string (RS x)] w (Ret (fun r _ => r = .string (RS (towQ a b x))) w) := by
 have U : Sz (2 * k + 1) (b - a) := (R.sub V).mono (by omega);have N : Sz (3 * k + 1) (x * (b - a)) := (hx.mul U).mono (by omega);have M := hid fun w Z => rSa b a k J (by omega) R V w Z
 have L := hid fun w Z => rMa x (b - a) (2 * k + 1) (by omega) (by omega) (hx.mono (by omega)) U w Z
 have K := hid fun w Z => rAa a (x * (b - a)) (3 * k + 1) (by omega) (by omega) (V.mono (by omega)) N w Z
 unfold towQ;generalize a + x * (b - a) = r at *;generalize x * (b - a) = q at *;generalize b - a = p at *;clear V R hx U N;go_enter Tryz.func60, Tryz.ntmps60;go_wp2_with fail;refine (M.out _ Z).mono ?_;rintro e H ⟨_, rfl, rfl, X⟩;go_wp2_with fail;refine (L.out H (Z.below X)).mono ?_;rintro e G ⟨_, rfl, rfl, Q⟩;have Y := zbt X Q;go_wp2_with fail;refine (K.out G (Z.below Y)).mono ?_;rintro e E ⟨_, rfl, rfl, O⟩;have S := zbt Y O;go_wp2_with fail;go_ret;exact ⟨_, rfl, rfl, S⟩
theorem iC0 (a b c d e f g h i : Value) (w : World) : (Instr.index 90 (.agg #[a, b, c, d, e, f, g, h, i]) (.int .i64 0)).run Tryz.prog w = .ok (.agg #[a, b, c]) w := by kernel_rfl
theorem iC1 (a b c d e f g h i : Value) (w : World) : (Instr.index 90 (.agg #[a, b, c, d, e, f, g, h, i]) (.int .i64 1)).run Tryz.prog w = .ok (.agg #[d, e, f]) w := by kernel_rfl
theorem iC2 (a b c d e f g h i : Value) (w : World) : (Instr.index 90 (.agg #[a, b, c, d, e, f, g, h, i]) (.int .i64 2)).run Tryz.prog w = .ok (.agg #[g, h, i]) w := by kernel_rfl
def sideL (c0 c1 c2 a b : PtQ) : Int := if c0 = a /\ c1 = b then 0 else if c1 = a /\ c2 = b then 1 else if c2 = a /\ c0 = b then 2 else -1
theorem sA0 (c0 c1 c2 a b : PtQ) (p o m : ByteArray) (w : World) :
 Calls Tryz.prog 30 #[.agg #[.string (RS c0.1), .string (RS c0.2), .string p, .string (RS c1.1), .string (RS c1.2), .string o, .string (RS c2.1), .string (RS c2.2), .string m], .agg #[.string (RS a.1), .string (RS a.2)], .agg #[.string (RS b.1), .string (RS b.2)]] w (Ret (fun r _ => r = .int .i64 (sideL c0 c1 c2 a b)) w) := by
 have d := hid (tps c0 a);have c := hid (tps c1 a);have h0 := hid (tps c2 a);have h2 := hid (tps c1 b);have h3 := hid (tps c2 b);have h4 := hid (tps c0 b);obtain ⟨v, B⟩ : ∃ r, r = sideL c0 c1 c2 a b := ⟨_, rfl⟩;rw [<- B];have g := hid B;clear B;generalize RS c0.1 = x0 at *;generalize RS c0.2 = y0 at *;generalize RS c1.1 = x1 at *;generalize RS c1.2 = y1 at *;generalize RS c2.1 = x2 at *;generalize RS c2.2 = y2 at *;generalize RS a.1 = ax at *;generalize RS a.2 = ay at *;generalize RS b.1 = bx at *;generalize RS b.2 = by' at *;go_enter Tryz.func30, Tryz.ntmps30;go_wp2_with fail;obtain ⟨W, l⟩ := zex (((w.alloc (.cells #[.string x0, .string y0, .string p, .string x1, .string y1, .string o, .string x2, .string y2, .string m] 90)).alloc (.cells #[.string ax, .string ay] 50)).alloc (.cells #[.string bx, .string by'] 50));have hB : Below w.heap.size w W := by rw [l]; exact (((Below.refl _ _).alloc (Nat.le_refl _) _).alloc (by simp) _).alloc (by simp; omega) _
 have f : BoxN W (w.heap.size + 1 + 1) 50 [.string bx, .string by'] := by rw [l]; exact BoxN.new _ _ _ _ (by simp)
 have z : BoxN W (w.heap.size + 1) 50 [.string ax, .string ay] := by
  rw [l];have j := (BoxN.new (w.alloc (.cells #[.string x0, .string y0, .string p, .string x1, .string y1, .string o, .string x2, .string y2, .string m] 90)) #[.string ax, .string ay] 50 (w.heap.size + 1) (by simp));exact j.below (zal _ _) j.lt
 have H : BoxN W w.heap.size 90 [.string x0, .string y0, .string p, .string x1, .string y1, .string o, .string x2, .string y2, .string m] := by
  rw [l];have j := (BoxN.new w #[.string x0, .string y0, .string p, .string x1, .string y1, .string o, .string x2, .string y2, .string m] 90 _ rfl);exact j.below (((Below.refl _ _).alloc (Nat.le_refl _) _).alloc (by simp) _) j.lt
 rw [<- l];clear l;have h5 := hB.size;go_loopw [10] (fun t10 wr => ∃ (i : Nat), t10 = .int .i64 i /\ i <= 3 /\ Hid ((1 <= i -> ¬(c0 = a /\ c1 = b)) /\ (2 <= i -> ¬(c1 = a /\ c2 = b)) /\ (3 <= i -> ¬(c2 = a /\ c0 = b))) /\ Below W.heap.size W wr) (fun t10 _ => 3 - (RowKit.intOf t10).toNat)
 case atStart => exact ⟨0, rfl, Nat.zero_le _, ⟨fun h => absurd h (by decide), fun h => absurd h (by decide), fun h => absurd h (by decide)⟩, Below.refl _ _⟩
 case round =>
  obtain ⟨i, rfl, hi, q, M⟩ := hrel;have y := H.below M H.lt;have f4 := z.below M z.lt;have x := f.below M f.lt;have h7 := M.size;have h6 := f.lt;have K : Below w.heap.size w wr := zbt hB M;clear H z f hB;obtain rfl | rfl | rfl | rfl : i = 0 \/ i = 1 \/ i = 2 \/ i = 3 := by omega
  ·have i0 := iC0
   rw [show ((0 : Nat) : Int) = 0 from rfl];go_upto_region 4 with fail;obtain ⟨S, U⟩ : ∃ X, X = wr.alloc (.cells #[.string x0, .string y0, .string p] 89) := ⟨_, rfl⟩;have Y : Below wr.heap.size wr S := by rw [U]; exact zal _ _
   have G : BoxN S wr.heap.size 89 [.string x0, .string y0, .string p] := by rw [U]; exact BoxN.new _ _ _ _ rfl
   rw [<- U];clear U;have E := y.below Y y.lt;have D := f4.below Y f4.lt;have C := x.below Y x.lt;have R : Below w.heap.size w S := zbt K Y;have Q : Below W.heap.size W S := zbt M Y;have k0 := G.cell 0 rfl;have k1 := G.cell 1 rfl;have l0 := D.cell 0 rfl;have l1 := D.cell 1 rfl;have m0 := E.cell 3 rfl;have m1 := E.cell 4 rfl;have J := C.cell 0 rfl;have I := C.cell 1 rfl;clear y f4 x E D C G Y K M;have L : Hid (∀ n, Below w.heap.size w (S.drewN n)) := fun n => R.trans ((bdN S n).mono R.size);have Z : Hid (∀ n, Below W.heap.size W (S.drewN n)) := fun n => Q.trans ((bdN S n).mono Q.size);have V : Hid (¬(c0 = a /\ c1 = b) -> (1 <= 1 -> ¬(c0 = a /\ c1 = b)) /\ (2 <= 1 -> ¬(c1 = a /\ c2 = b)) /\ (3 <= 1 -> ¬(c2 = a /\ c0 = b))) := fun hne => by
    obtain ⟨J, I, A⟩ := q.out;refine ⟨fun _ => ?_, fun h => ?_, fun h => ?_⟩
    ·first | exact J (by omega) | exact hne
    ·first | exact I (by omega) | exact hne | exact absurd h (by decide)
    ·first | exact A (by omega) | exact hne | exact absurd h (by decide)
   rcases d.out with ⟨e, t, k⟩ | ⟨e, t | ⟨t, k⟩⟩
   ·rcases h2.out with ⟨N, H, z⟩ | ⟨N, H | ⟨H, z⟩⟩
    ·have s : Hid (0 = v) := by
      obtain ⟨J, I, A⟩ := q.out;unfold Hid;rw [g.out]; unfold sideL;rw [if_pos ⟨e, N⟩]
     clear e N;go_wp2_with fail;go_quiet (fail);go_wp2_with fail;go_ret;exact ⟨_, rfl, congrArg (Value.int .i64) s.out, L.out _⟩
    ·have O := hid (V.out fun h => N h.2)
     clear e N;go_wp2_with fail;go_quiet (fail);go_wp2_with fail;go_roundw
     case rel => exact ⟨1, by go_num, by decide, O, Z.out _⟩
     case measure => simp [RowKit.intOf]
    ·have O := hid (V.out fun h => N h.2)
     clear e N;go_wp2_with fail;go_quiet (fail);go_wp2_with fail;go_roundw
     case rel => exact ⟨1, by go_num, by decide, O, Z.out _⟩
     case measure => simp [RowKit.intOf]
   ·have O := hid (V.out fun h => e h.1)
    clear e;go_wp2_with fail;go_quiet (fail);go_wp2_with fail;go_roundw
    case rel => exact ⟨1, by go_num, by decide, O, Z.out _⟩
    case measure => simp [RowKit.intOf]
   ·have O := hid (V.out fun h => e h.1)
    clear e;go_wp2_with fail;go_quiet (fail);go_wp2_with fail;go_roundw
    case rel => exact ⟨1, by go_num, by decide, O, Z.out _⟩
    case measure => simp [RowKit.intOf]
  ·have i1 := iC1
   rw [show ((1 : Nat) : Int) = 1 from rfl];go_upto_region 4 with fail;obtain ⟨S, U⟩ : ∃ X, X = wr.alloc (.cells #[.string x1, .string y1, .string o] 89) := ⟨_, rfl⟩;have Y : Below wr.heap.size wr S := by rw [U]; exact zal _ _
   have G : BoxN S wr.heap.size 89 [.string x1, .string y1, .string o] := by rw [U]; exact BoxN.new _ _ _ _ rfl
   rw [<- U];clear U;have E := y.below Y y.lt;have D := f4.below Y f4.lt;have C := x.below Y x.lt;have R : Below w.heap.size w S := zbt K Y;have Q : Below W.heap.size W S := zbt M Y;have k0 := G.cell 0 rfl;have k1 := G.cell 1 rfl;have l0 := D.cell 0 rfl;have l1 := D.cell 1 rfl;have m0 := E.cell 6 rfl;have m1 := E.cell 7 rfl;have J := C.cell 0 rfl;have I := C.cell 1 rfl;clear y f4 x E D C G Y K M;have L : Hid (∀ n, Below w.heap.size w (S.drewN n)) := fun n => R.trans ((bdN S n).mono R.size);have Z : Hid (∀ n, Below W.heap.size W (S.drewN n)) := fun n => Q.trans ((bdN S n).mono Q.size);have V : Hid (¬(c1 = a /\ c2 = b) -> (1 <= 2 -> ¬(c0 = a /\ c1 = b)) /\ (2 <= 2 -> ¬(c1 = a /\ c2 = b)) /\ (3 <= 2 -> ¬(c2 = a /\ c0 = b))) := fun hne => by
    obtain ⟨J, I, A⟩ := q.out;refine ⟨fun _ => ?_, fun h => ?_, fun h => ?_⟩
    ·first | exact J (by omega) | exact hne
    ·first | exact I (by omega) | exact hne | exact absurd h (by decide)
    ·first | exact A (by omega) | exact hne | exact absurd h (by decide)
   rcases c.out with ⟨e, t, k⟩ | ⟨e, t | ⟨t, k⟩⟩
   ·rcases h3.out with ⟨N, H, z⟩ | ⟨N, H | ⟨H, z⟩⟩
    ·have s : Hid (1 = v) := by
      obtain ⟨J, I, A⟩ := q.out;unfold Hid;rw [g.out]; unfold sideL;rw [if_neg (J (by decide)), if_pos ⟨e, N⟩]
     clear e N;go_wp2_with fail;go_quiet (fail);go_wp2_with fail;go_ret;exact ⟨_, rfl, congrArg (Value.int .i64) s.out, L.out _⟩
    ·have O := hid (V.out fun h => N h.2)
     clear e N;go_wp2_with fail;go_quiet (fail);go_wp2_with fail;go_roundw
     case rel => exact ⟨2, by go_num, by decide, O, Z.out _⟩
     case measure => simp [RowKit.intOf]
    ·have O := hid (V.out fun h => N h.2)
     clear e N;go_wp2_with fail;go_quiet (fail);go_wp2_with fail;go_roundw
     case rel => exact ⟨2, by go_num, by decide, O, Z.out _⟩
     case measure => simp [RowKit.intOf]
   ·have O := hid (V.out fun h => e h.1)
    clear e;go_wp2_with fail;go_quiet (fail);go_wp2_with fail;go_roundw
    case rel => exact ⟨2, by go_num, by decide, O, Z.out _⟩
    case measure => simp [RowKit.intOf]
   ·have O := hid (V.out fun h => e h.1)
    clear e;go_wp2_with fail;go_quiet (fail);go_wp2_with fail;go_roundw
    case rel => exact ⟨2, by go_num, by decide, O, Z.out _⟩
    case measure => simp [RowKit.intOf]
  ·have i2 := iC2
   rw [show ((2 : Nat) : Int) = 2 from rfl];go_upto_region 4 with fail;obtain ⟨S, U⟩ : ∃ X, X = wr.alloc (.cells #[.string x2, .string y2, .string m] 89) := ⟨_, rfl⟩;have Y : Below wr.heap.size wr S := by rw [U]; exact zal _ _
   have G : BoxN S wr.heap.size 89 [.string x2, .string y2, .string m] := by rw [U]; exact BoxN.new _ _ _ _ rfl
   rw [<- U];clear U;have E := y.below Y y.lt;have D := f4.below Y f4.lt;have C := x.below Y x.lt;have R : Below w.heap.size w S := zbt K Y;have Q : Below W.heap.size W S := zbt M Y;have k0 := G.cell 0 rfl;have k1 := G.cell 1 rfl;have l0 := D.cell 0 rfl;have l1 := D.cell 1 rfl;have m0 := E.cell 0 rfl;have m1 := E.cell 1 rfl;have J := C.cell 0 rfl;have I := C.cell 1 rfl;clear y f4 x E D C G Y K M;have L : Hid (∀ n, Below w.heap.size w (S.drewN n)) := fun n => R.trans ((bdN S n).mono R.size);have Z : Hid (∀ n, Below W.heap.size W (S.drewN n)) := fun n => Q.trans ((bdN S n).mono Q.size);have V : Hid (¬(c2 = a /\ c0 = b) -> (1 <= 3 -> ¬(c0 = a /\ c1 = b)) /\ (2 <= 3 -> ¬(c1 = a /\ c2 = b)) /\ (3 <= 3 -> ¬(c2 = a /\ c0 = b))) := fun hne => by
    obtain ⟨J, I, A⟩ := q.out;refine ⟨fun _ => ?_, fun h => ?_, fun h => ?_⟩
    ·first | exact J (by omega) | exact hne
    ·first | exact I (by omega) | exact hne | exact absurd h (by decide)
    ·first | exact A (by omega) | exact hne | exact absurd h (by decide)
   rcases h0.out with ⟨e, t, k⟩ | ⟨e, t | ⟨t, k⟩⟩
   ·rcases h4.out with ⟨N, H, z⟩ | ⟨N, H | ⟨H, z⟩⟩
    ·have s : Hid (2 = v) := by
      obtain ⟨J, I, A⟩ := q.out;unfold Hid;rw [g.out]; unfold sideL;rw [if_neg (J (by decide)), if_neg (I (by decide)), if_pos ⟨e, N⟩]
     clear e N;go_wp2_with fail;go_quiet (fail);go_wp2_with fail;go_ret;exact ⟨_, rfl, congrArg (Value.int .i64) s.out, L.out _⟩
    ·have O := hid (V.out fun h => N h.2)
     clear e N;go_wp2_with fail;go_quiet (fail);go_wp2_with fail;go_roundw
     case rel => exact ⟨3, by go_num, by decide, O, Z.out _⟩
     case measure => simp [RowKit.intOf]
    ·have O := hid (V.out fun h => N h.2)
     clear e N;go_wp2_with fail;go_quiet (fail);go_wp2_with fail;go_roundw
     case rel => exact ⟨3, by go_num, by decide, O, Z.out _⟩
     case measure => simp [RowKit.intOf]
   ·have O := hid (V.out fun h => e h.1)
    clear e;go_wp2_with fail;go_quiet (fail);go_wp2_with fail;go_roundw
    case rel => exact ⟨3, by go_num, by decide, O, Z.out _⟩
    case measure => simp [RowKit.intOf]
   ·have O := hid (V.out fun h => e h.1)
    clear e;go_wp2_with fail;go_quiet (fail);go_wp2_with fail;go_roundw
    case rel => exact ⟨3, by go_num, by decide, O, Z.out _⟩
    case measure => simp [RowKit.intOf]
  ·have s : Hid (-1 = v) := by
    obtain ⟨J, I, A⟩ := q.out;unfold Hid;rw [g.out]; unfold sideL;rw [if_neg (J (by decide)), if_neg (I (by decide)), if_neg (A (by decide))]
   rw [show ((3 : Nat) : Int) = 3 from rfl];go_wp2_with fail;go_ret;exact ⟨_, rfl, congrArg (Value.int .i64) s.out, K⟩
def cellC (c : Cor) : List Value := [.string (RS c.1.1), .string (RS c.1.2), .string (RS c.2)]
def cCC (l : List Cor) : List Value := l.flatMap cellC
def RdK (w : World) (v : Value) (l : List Cor) : Prop := RdC 3 w v l.length (cCC l)
theorem cCs (l : List Cor) (c : Cor) : cCC (l ++ [c]) = cCC l ++ [.string (RS c.1.1), .string (RS c.1.2), .string (RS c.2)] := by simp [cCC, cellC]
theorem RdK.open {w : World} {v : Value} {l : List Cor} (h : RdK w v l) : ∃ p c, v = .slice p l.length c /\ l.length <= c /\ c <= maxLen /\
 (l ≠ [] -> ∃ b off, p = some ⟨b, off, none⟩ /\ b < w.heap.size /\ ∀ (i : Nat) (Y : i < l.length), w.cell? ⟨b, off + i * 3, none⟩ = some (.string (RS l[i].1.1)) /\ w.cell? ⟨b, off + i * 3 + 1, none⟩ = some (.string (RS l[i].1.2)) /\ w.cell? ⟨b, off + i * 3 + 2, none⟩ = some (.string (RS l[i].2))) := by
 obtain ⟨p, c, Q, V, U, O, S⟩ := h;refine ⟨p, c, Q, V, U, fun hne => ?_⟩;obtain ⟨b, off, R, X⟩ := S (by
  cases l with
  | nil => exact absurd rfl hne
  | cons a l => simp [cCC, cellC])
 have Z : ∀ (i : Nat) (Y : i < l.length), w.cell? ⟨b, off + i * 3, none⟩ = some (.string (RS l[i].1.1)) /\ w.cell? ⟨b, off + i * 3 + 1, none⟩ = some (.string (RS l[i].1.2)) /\ w.cell? ⟨b, off + i * 3 + 2, none⟩ = some (.string (RS l[i].2)) := fun i Y => by
  have e := gEf cellC 3 (fun _ => rfl) l i;refine ⟨?_, ?_, ?_⟩
  ·have := X (i * 3) (.string (RS l[i].1.1)) (by have := e 0 (by omega); rw [Nat.add_zero] at this; unfold cCC; rw [this, List.getElem?_eq_getElem Y]; rfl)
   exact this
  ·have := X (i * 3 + 1) (.string (RS l[i].1.2)) (by have := e 1 (by omega); unfold cCC; rw [this, List.getElem?_eq_getElem Y]; rfl)
   rw [<- Nat.add_assoc] at this;exact this
  ·have := X (i * 3 + 2) (.string (RS l[i].2)) (by have := e 2 (by omega); unfold cCC; rw [this, List.getElem?_eq_getElem Y]; rfl)
   rw [<- Nat.add_assoc] at this;exact this
 exact ⟨b, off, R, World.block_lt_of_cell? w _ (Z 0 (List.length_pos_iff.2 hne)).1, Z⟩
def cKK (a b : Cor) (z : Rat) : Cor := ((towQ a.1.1 b.1.1 ((a.2 - z) / ((a.2 - z) - (b.2 - z))), towQ a.1.2 b.1.2 ((a.2 - z) / ((a.2 - z) - (b.2 - z)))), z)
def cutS (a b : Cor) (z : Rat) : List Cor := (if 0 <= (a.2 - z).num.sign then [a] else []) ++ (if (a.2 - z).num.sign * (b.2 - z).num.sign < 0 then [cKK a b z] else [])
def corA (c0 c1 c2 : Cor) : Nat -> Cor | 0 => c0 | 1 => c1 | _ => c2
def corB (c0 c1 c2 : Cor) : Nat -> Cor | 0 => c1 | 1 => c2 | _ => c0
def cutTo (c0 c1 c2 : Cor) (z : Rat) : Nat -> List Cor | 0 => [] | i + 1 => cutTo c0 c1 c2 z i ++ cutS (corA c0 c1 c2 i) (corB c0 c1 c2 i) z
def sTo (c0 c1 c2 : Cor) (z : Rat) : Nat -> Bool | 0 => false | i + 1 => sTo c0 c1 c2 z i || decide (0 < ((corA c0 c1 c2 i).2 - z).num.sign)
def cutL (c0 c1 c2 : Cor) (z : Rat) : List Cor := if sTo c0 c1 c2 z 3 then cutTo c0 c1 c2 z 3 else []
theorem cA0 (a b : Cor) (z : Rat) : (cutS a b z).length <= 2 := by
 unfold cutS;rw [List.length_append];split <;> split <;> simp
theorem cTl (c0 c1 c2 : Cor) (z : Rat) : ∀ i, (cutTo c0 c1 c2 z i).length <= 2 * i
 | 0 => by simp [cutTo]
 | i + 1 => by
   have Z := cTl c0 c1 c2 z i;have Y := cA0 (corA c0 c1 c2 i) (corB c0 c1 c2 i) z;unfold cutTo;rw [List.length_append];omega
theorem cTn (c0 c1 c2 : Cor) (z : Rat) : ∀ i, sTo c0 c1 c2 z i = true -> cutTo c0 c1 c2 z i ≠ []
 | 0, h => by simp [sTo] at h
 | i + 1, h => by
   unfold sTo at h;rw [Bool.or_eq_true] at h;unfold cutTo;rcases h with h | h
   ·intro e
    exact cTn c0 c1 c2 z i h (List.append_eq_nil_iff.1 e).1
   ·have Y := of_decide_eq_true h
    intro e;have Z := (List.append_eq_nil_iff.1 e).2;unfold cutS at Z;rw [if_pos (by omega)] at Z;simp at Z
theorem szt (q : Rat) : (RS q).toList = [48] ↔ q.num.sign = 0 := by
 have h := Re4 q;rw [Int.sign_eq_zero_iff_zero, Rat.num_eq_zero];by_cases hq : q = 0
 ·rw [decide_eq_true hq] at h
  exact ⟨fun _ => hq, fun _ => by simpa using h⟩
 ·rw [decide_eq_false hq] at h
  exact ⟨fun e => by rw [e] at h; simp at h, fun e => absurd e hq⟩
theorem sign3 (q : Rat) : q.num.sign = -1 \/ q.num.sign = 0 \/ q.num.sign = 1 := by
 rcases Int.lt_trichotomy q.num 0 with h | h | h
 ·exact .inl (Int.sign_eq_neg_one_of_neg h)
 ·exact .inr (.inl (by rw [h]; rfl))
 ·exact .inr (.inr (Int.sign_eq_one_of_pos h))
theorem icr : ((Tryz.prog).info? 89).map (fun i => (i.zero, i.size, i.bytes)) = some (some (.agg #[.string ⟨#[]⟩, .string ⟨#[]⟩, .string ⟨#[]⟩]), 3, 48) := by kernel_rfl
theorem cte (w : World) (x y z : Value) (E : Nat) : ∀ (j : Nat) (u : Value), [x, y, z][j]? = some u -> (w.alloc (.cells #[x, y, z] E)).cell? ((⟨w.heap.size, 0, none⟩ : Addr).add j) = some u := World.news_of_block (cs := #[x, y, z]) (t := E) (fr := (0, 0)) (World.alloc_heap_new w _)
theorem te0 (x y z : ByteArray) : ∀ u ∈ [Value.string x, .string y, .string z], u.oneCell' = true := by
 intro u Z; simp at Z; rcases Z with rfl | rfl | rfl <;> rfl
end Go.Proofs.YtbfcmipplhkkeaaGreatDoor
