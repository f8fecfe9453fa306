import Derived.Test.YtmcbeajdloaliaaGreatDoorUW2
/- The walks over field.on, field.number, field.Value. Klippelaw12.Place, Make Right sheets Plain The walks over rational.Whole, klippelaw12.point, mesh.Grid. mesh.checkTriangle The walks over mesh.Boundary, mesh.right, mesh.Shares, mesh.within. The walks over field.toward, field.side. Parts of a triangle above a height Level lines -/
set_option maxHeartbeats 8000000
set_option maxRecDepth 100000
namespace Go.Proofs.YtmcbeajdloaliaaGreatDoor
open Go.RowKit Go.Lib
def onQ (P : List PtQ) (F : List Rat) (tr : Tri) (p : PtQ) : Rat := hI F tr.1 + (sd0 P F tr).1 * (p.1 - (ptI P tr.1).1) + (sd0 P F tr).2 * (p.2 - (ptI P tr.1).2)
theorem og0 (w : World) (vp vt vf : Value) (P : List PtQ) (T : List Tri) (k : Nat) (F : List Rat) (h : FieldIn w vp vt vf P T k F) (t : Nat) (tz : Int) (h7 : tz = (t : Int)) (y : t < T.length) (Q : Tri) (C : Q = T[t]) (p : PtQ) (m : Nat) (h3 : 0 < m) (hm : m <= 1000) (hs : SzP m (sd0 P F Q)) (hp : SzP m p) (D : k <= m) (R : Good w) :
 Calls Tryz.prog 155 #[.agg #[vp, vt], vf, .int .i64 tz, .agg #[.string (RS p.1), .string (RS p.2)]] w (Ret (fun r _ => r = .string (RS (onQ P F Q p))) w) := by
 have M : Q ∈ T := by rw [C]; exact List.getElem_mem y
 obtain ⟨g0, g1⟩ := h.m.idx Q M Q.1 (by simp [idxOf]);obtain ⟨q, hq⟩ : ∃ q : Nat, Q.1 = (q : Int) := ⟨Q.1.toNat, by omega⟩;have hl := h.fl;have L : q < F.length := by omega
 have K : q < P.length := by omega
 have HH := hid h;have hi : Hid (∀ (w : World), FieldIn w vp vt vf P T k F -> Good w -> Calls Tryz.prog 187 #[.agg #[vp, vt], vf, .int .i64 tz] w (Ret (fun r _ => r = .agg #[.string (RS (sd0 P F Q).1), .string (RS (sd0 P F Q).2)]) w)) := fun w h R =>
  sy0 w _ _ _ P T k F h.p h.t h.m.toMeshIn h.m.klim2 h.f h.fs h.fl t tz h7 y Q C (h.m.turns Q M) R
 obtain ⟨bt, ot, ct, rfl, hk, e0, _, _⟩ := h.tri t y;obtain ⟨bf, of, cf, rfl, hj, ef⟩ := h.hgt q L;have h5 := h.p;obtain ⟨pp, cp, rfl, _, _, h6⟩ := h5.open;obtain ⟨bp, op, rfl, h0, h4⟩ := h6 (by intro e; have h := sPl P; rw [e] at h; simp at h; omega);obtain ⟨ex, ey⟩ := h4 q (by rw [sPl]; exact K);rw [sPg P q K] at ex ey;dsimp only at ex ey;rw [<- C, hq] at e0;have zo := h.m.sz _ (List.getElem_mem K);have zf := h.fs _ (List.getElem_mem L);unfold onQ;rw [hq, hh0 F q L, pIn P q K];rw [hh0 F q L] at ef;rw [sPl] at *;generalize sd0 P F Q = S at *;generalize P[q] = o at *;generalize F[q] = f at *;have d1 : Sz (2 * m + 1) (p.1 - o.1) := (hp.1.sub (zo.1.mono D)).mono (by omega);have d2 : Sz (2 * m + 1) (p.2 - o.2) := (hp.2.sub (zo.2.mono D)).mono (by omega);have m1 : Sz (3 * m + 1) (S.1 * (p.1 - o.1)) := (hs.1.mul d1).mono (by omega);have m2 : Sz (3 * m + 1) (S.2 * (p.2 - o.2)) := (hs.2.mul d2).mono (by omega);have hd := hid fun w R => rSa p.1 o.1 m h3 (by omega) hp.1 (zo.1.mono D) w R
 have he := hid fun w R => rSa p.2 o.2 m h3 (by omega) hp.2 (zo.2.mono D) w R
 have hf := hid fun w R => rMa S.1 (p.1 - o.1) (2 * m + 1) (by omega) (by omega) (hs.1.mono (by omega)) d1 w R
 have hh := hid fun w R => rMa S.2 (p.2 - o.2) (2 * m + 1) (by omega) (by omega) (hs.2.mono (by omega)) d2 w R
 have B : Hid (∀ (v : Value) (w : World), RdQ w v [f, S.1 * (p.1 - o.1), S.2 * (p.2 - o.2)] -> Good w -> _) := fun v w hr R => rb0 [f, S.1 * (p.1 - o.1), S.2 * (p.2 - o.2)] (3 * m + 1) (by omega) (by simp; omega) (by
  intro q hq;simp only [List.mem_cons, List.not_mem_nil, or_false] at hq;rcases hq with rfl | rfl | rfl
  ·exact zf.mono (by omega)
  ·exact m1
  ·exact m2) v w hr R
 have N : [f, S.1 * (p.1 - o.1), S.2 * (p.2 - o.2)].foldl (·+ ·) 0 = f + S.1 * (p.1 - o.1) + S.2 * (p.2 - o.2) := by
  simp only [List.foldl_cons, List.foldl_nil];grind
 rw [N] at B;generalize f + S.1 * (p.1 - o.1) + S.2 * (p.2 - o.2) = res at *;generalize S.1 * (p.1 - o.1) = x1 at *;generalize S.2 * (p.2 - o.2) = x2 at *;generalize p.1 - o.1 = y1 at *;generalize p.2 - o.2 = y2 at *;have hv : (t : Int) < (T.length : Int) := by omega
 have ht : (q : Int) < (P.length : Int) := by omega
 have hu : (q : Int) < (F.length : Int) := by omega
 have i0 := iT0;subst h7;clear h C M h5 h6 h4 hs hp zo zf d1 d2 m1 m2 N g0 g1 hq L K hl;go_enter Tryz.func155, Tryz.ntmps155;go_wp2_with fail;obtain ⟨W, a⟩ := zex ((w.alloc (.cells #[.slice (some ⟨bp, op, none⟩) P.length cp, .slice (some ⟨bt, ot, none⟩) T.length ct] 41)).alloc (.cells #[.string (RS p.1), .string (RS p.2)] 73));have hB : Below w.heap.size w W := by rw [a]; exact zal2 _ _ _
 have b7 : BoxN W (w.heap.size + 1) 73 [.string (RS p.1), .string (RS p.2)] := by rw [a]; exact BoxN.new _ _ _ _ (by simp)
 have b4 : BoxN W w.heap.size 41 [.slice (some ⟨bp, op, none⟩) P.length cp, .slice (some ⟨bt, ot, none⟩) T.length ct] := by
  rw [a];have h1 := (BoxN.new w #[.slice (some ⟨bp, op, none⟩) P.length cp, .slice (some ⟨bt, ot, none⟩) T.length ct] 41 _ rfl);exact h1.below (zal _ _) h1.lt
 rw [<- a];clear a;refine zR (hi.out W (HH.out.below hB) (R.below hB)) fun w1 hb1 => ?_;have b := zbt hB hb1;have i := b7.bl hb1;have l := b4.bl hb1;clear hb1 hB b7 b4;go_upto_region 2 with fail;obtain ⟨A, I⟩ : ∃ W, W = w1.alloc (.cells #[.string (RS S.1), .string (RS S.2)] 73) := ⟨_, rfl⟩;have G : Below w1.heap.size w1 A := by rw [I]; exact zal _ _
 have b9 : BoxN A w1.heap.size 73 [.string (RS S.1), .string (RS S.2)] := by rw [I]; exact BoxN.new _ _ _ _ rfl
 rw [<- I];clear I;have O := zbt b G;have g := i.bl G;have j := l.bl G;clear G b i l;obtain ⟨x0, ho⟩ := zk2 j;have k0 := zcq O hk e0;have k1 := zcq O h0 ex;have k2 := zcq O h0 ey;go_upto_region 4 with fail;obtain ⟨z, H⟩ : ∃ W, W = A.alloc (.cells #[.string (RS o.1), .string (RS o.2)] 73) := ⟨_, rfl⟩;have E : Below A.heap.size A z := by rw [H]; exact zal _ _
 have n : BoxN z A.heap.size 73 [.string (RS o.1), .string (RS o.2)] := by rw [H]; exact BoxN.new _ _ _ _ rfl
 rw [<- H];clear H;have J := zbt O E;have d := g.bl E;have c := b9.bl E;clear E O g b9 j x0 ho k0 k1 k2 e0 ex ey;have kf := zcq J hj ef;obtain ⟨u0, u1⟩ := zk2 c;obtain ⟨v0, v1⟩ := zk2 d;obtain ⟨w0, s⟩ := zk2 n;have hw := c.lt;have hx := d.lt;have hy := n.lt;have hz := J.size;have h2 : Good z.drew := (R.below J).drewN 1;clear ef;go_region_held3 (fun w' => w'.cell? ⟨bf, of + q, none⟩ = some (.string (RS f)) /\ w'.cell? ⟨w1.heap.size, 0, none⟩ = some (.string (RS S.1)) /\ w'.cell? ⟨w.heap.size + 1, 0, none⟩ = some (.string (RS p.1)) /\ w'.cell? ⟨A.heap.size, 0, none⟩ = some (.string (RS o.1)) /\ w'.cell? ⟨w1.heap.size, 1, none⟩ = some (.string (RS S.2)) /\ w'.cell? ⟨w.heap.size + 1, 1, none⟩ = some (.string (RS p.2)) /\ w'.cell? ⟨A.heap.size, 1, none⟩ = some (.string (RS o.2)))
  (first | with_reducible exact ⟨kf, u0, v0, w0, u1, v1, s⟩ | with_reducible exact ⟨r_1_0, r_1_1, r_1_2, r_1_3, r_1_4, r_1_5, r_1_6⟩ | with_reducible exact ⟨r_2_0, r_2_1, r_2_2, r_2_3, r_2_4, r_2_5, r_2_6⟩ | with_reducible exact ⟨r_3_0, r_3_1, r_3_2, r_3_3, r_3_4, r_3_5, r_3_6⟩ | with_reducible exact ⟨r_4_0, r_4_1, r_4_2, r_4_3, r_4_4, r_4_5, r_4_6⟩ | with_reducible exact ⟨(cal _ r_4_0), (cal _ r_4_1), (cal _ r_4_2), (cal _ r_4_3), (cal _ r_4_4), (cal _ r_4_5), (cal _ r_4_6)⟩ | with_reducible exact ⟨r_5_0, r_5_1, r_5_2, r_5_3, r_5_4, r_5_5, r_5_6⟩ | exact ⟨kf, u0, v0, w0, u1, v1, s⟩ | exact ⟨r_1_0, r_1_1, r_1_2, r_1_3, r_1_4, r_1_5, r_1_6⟩ | exact ⟨r_2_0, r_2_1, r_2_2, r_2_3, r_2_4, r_2_5, r_2_6⟩ | exact ⟨r_3_0, r_3_1, r_3_2, r_3_3, r_3_4, r_3_5, r_3_6⟩ | exact ⟨r_4_0, r_4_1, r_4_2, r_4_3, r_4_4, r_4_5, r_4_6⟩ | exact ⟨(cal _ r_4_0), (cal _ r_4_1), (cal _ r_4_2), (cal _ r_4_3), (cal _ r_4_4), (cal _ r_4_5), (cal _ r_4_6)⟩ | exact ⟨r_5_0, r_5_1, r_5_2, r_5_3, r_5_4, r_5_5, r_5_6⟩)
  (first
  | (go_at_call 26; refine (B.out _ _ (RdQ.fresh x [f, x1, x2] _ _ rfl (by simp) 3 rfl _ rfl) (hb.alloc _)).mono ?_; rintro e hc ⟨_, rfl, rfl, rb5_⟩
     have U : Below x.heap.size x hc := ((Below.refl _ _).alloc (Nat.le_refl _) _).trans (rb5_.mono (by simp));have r_5_0 := zct U r_4_0;have r_5_1 := zct U r_4_1;have r_5_2 := zct U r_4_2;have r_5_3 := zct U r_4_3;have r_5_4 := zct U r_4_4;have r_5_5 := zct U r_4_5;have r_5_6 := zct U r_4_6;have hG := U.size;have hA := hb.below U)
  | (go_at_call 25; refine (hh.out _ ha).mono ?_; rintro e x ⟨_, rfl, rfl, V⟩
     have r_4_0 := zct V r_3_0;have r_4_1 := zct V r_3_1;have r_4_2 := zct V r_3_2;have r_4_3 := zct V r_3_3;have r_4_4 := zct V r_3_4;have r_4_5 := zct V r_3_5;have r_4_6 := zct V r_3_6;have hF := V.size;have hb := ha.below V)
  | (go_at_call 23; refine (he.out _ h9).mono ?_; rintro e hJ ⟨_, rfl, rfl, X⟩
     have r_3_0 := zct X r_2_0;have r_3_1 := zct X r_2_1;have r_3_2 := zct X r_2_2;have r_3_3 := zct X r_2_3;have r_3_4 := zct X r_2_4;have r_3_5 := zct X r_2_5;have r_3_6 := zct X r_2_6;have hE := X.size;have ha := h9.below X)
  | (go_at_call 25; refine (hf.out _ h8).mono ?_; rintro e hH ⟨_, rfl, rfl, Y⟩
     have r_2_0 := zct Y r_1_0;have r_2_1 := zct Y r_1_1;have r_2_2 := zct Y r_1_2;have r_2_3 := zct Y r_1_3;have r_2_4 := zct Y r_1_4;have r_2_5 := zct Y r_1_5;have r_2_6 := zct Y r_1_6;have hD := Y.size;have h9 := h8.below Y)
  | (go_at_call 23; refine (hd.out _ h2).mono ?_; rintro e hn ⟨_, rfl, rfl, Z⟩
     have r_1_0 := zct Z kf;have r_1_1 := zct Z u0;have r_1_2 := zct Z v0;have r_1_3 := zct Z w0;have r_1_4 := zct Z u1;have r_1_5 := zct Z v1;have r_1_6 := zct Z s;have hC : z.heap.size <= hn.heap.size := Z.size;have h8 := h2.below Z))
 have rB : Below z.heap.size z hc := zbt (zbt (zbt (zbt (zbt (bdN z 1) Z) Y) X) V) U;go_wp2_with fail;go_ret;exact ⟨_, rfl, rfl, (zbt J rB)⟩
theorem fok (q : Rat) (h : Sz 200 q) (w : World) (Y : Good w) :
 Calls Tryz.prog 104 #[.string (RS q)] w (Ret (fun r _ => r = .tuple #[.string (RS q), .int .i64 0]) w) := by
 have X := h.size (by omega);have Z : Hid (eNm (rQQ (RS q).data.toList) = 0) := by unfold Hid; rw [Rlt, rQR h]; rfl
 clear h;go_enter Tryz.func104, Tryz.ntmps104;go_wp2_with fail;refine zR (cQa (RS q) (by omega) _ Y) fun w1 hb1 => ?_;rw [Z.out];go_wp2_with fail;go_ret2;exact ⟨_, rfl, rfl, hb1⟩
theorem vin (w : World) (x v c : Value) (P : List PtQ) (T : List Tri) (k : Nat) (F : List Rat) (h : FieldIn w x v c P T k F) (p : PtQ) (D : SzP 200 p) (t : Nat) (l : List Int) (hl : locN P T p T.length = (t : Int) :: l) (g : t < T.length) (hs : SzP 200 (sd0 P F T[t])) (hz : Sz 200 (onQ P F T[t] p)) (j : Good w) :
 Calls Tryz.prog 114 #[.agg #[x, v], c, .agg #[.string (RS p.1), .string (RS p.2)]] w (Ret (fun r _ => r = .tuple #[.string (RS (onQ P F T[t] p)), .int .i64 0]) w) := by
 have HH := hid h;have M : Hid (∀ w', Below w.heap.size w w' -> Good w' -> _) := fun w' hb hg' => lok w' x v P T k (h.below hb).p (h.below hb).t h.m p D hg';rw [hl] at M;have n : Hid (∀ w', Below w.heap.size w w' -> Good w' -> _) := fun w' hb hg' => og0 w' x v c P T k F (h.below hb) t t rfl g T[t] rfl p 200 (by omega) (by omega) hs D h.m.klim2 hg'
 have o : Hid (∀ w', Good w' -> _) := fun w' hg' => fok (onQ P F T[t] p) hz w' hg';obtain ⟨B, J, A, I, pf, cf, rfl, rfl, rfl⟩ := h.open;generalize onQ P F T[t] p = res at *;generalize RS res = ress at *;generalize RS p.1 = px at *;generalize RS p.2 = py at *;clear h hl hs hz;go_enter Tryz.func114, Tryz.ntmps114;go_wp2_with fail;obtain ⟨W, N⟩ := zex (((w.alloc (.cells #[.slice B P.length J, .slice A T.length I] 41)).alloc (.cells #[.string px, .string py] 73)).alloc (.cells #[.slice pf F.length cf] 33));have y : Below w.heap.size w W := by rw [N]; exact (((Below.refl _ _).alloc (Nat.le_refl _) _).alloc (by simp) _).alloc (by simp; omega) _
 have bF : BoxN W (w.heap.size + 1 + 1) 33 [.slice pf F.length cf] := by rw [N]; exact BoxN.new _ _ _ _ (by simp)
 have b5 : BoxN W (w.heap.size + 1) 73 [.string px, .string py] := by
  rw [N];have H := (BoxN.new (w.alloc (.cells #[.slice B P.length J, .slice A T.length I] 41)) #[.string px, .string py] 73 (w.heap.size + 1) (by simp));exact H.below (zal _ _) H.lt
 have a : BoxN W w.heap.size 41 [.slice B P.length J, .slice A T.length I] := by
  rw [N];have H := (BoxN.new w #[.slice B P.length J, .slice A T.length I] 41 _ rfl);exact H.below (((Below.refl _ _).alloc (Nat.le_refl _) _).alloc (by simp) _) H.lt
 rw [<- N];clear N;refine zR (co0 (HH.out.below y) _ (bF.cell 0 rfl) (j.below y)) fun w1 hb1 => ?_;have V := zbt y hb1;have Q := b5.bl hb1;have R := a.bl hb1;obtain ⟨x0, x1⟩ := zk2 R;obtain ⟨s, q⟩ := zk2 Q;clear hb1 y b5 a bF;go_wp2_with fail;refine (M.out w1 V (j.below V)).mono ?_;rintro e O ⟨_, rfl, ⟨vl, rfl, C⟩, S⟩;have U := zbt V S;have K := Q.bl S;have L := R.bl S;obtain ⟨pl, cl, rfl, h3, -, E⟩ := C.open;obtain ⟨bl, ol, rfl, h2, X⟩ := E (by simp);have b := X 0 (by simp);have h5 := K.lt;have h4 := L.lt;have h0 : 0 < ((t : Int) :: l).length := by simp
 have i : ¬ (((t : Int) :: l).length = 0) := by simp
 simp only [List.getElem_cons_zero, Nat.add_zero] at b;clear x0 x1 s q C E X S V Q R;obtain ⟨x0, x1⟩ := zk2 L;obtain ⟨s, q⟩ := zk2 K;generalize ((t : Int) :: l).length = nl at *;have G : Good O.drew := (j.below U).drewN 1;have m : Below w.heap.size w O.drew := U.trans ((bdN O 1).mono U.size);go_upto_region 9 with fail;go_region_held3 (fun w' => w'.cell? ⟨w.heap.size, 0, none⟩ = some (.slice B P.length J) /\ w'.cell? ⟨w.heap.size, 1, none⟩ = some (.slice A T.length I) /\ w'.cell? ⟨bl, ol, none⟩ = some (.int .i64 t) /\ w'.cell? ⟨w.heap.size + 1, 0, none⟩ = some (.string px) /\ w'.cell? ⟨w.heap.size + 1, 1, none⟩ = some (.string py))
  (first | exact ⟨x0, x1, b, s, q⟩ | exact ⟨r_1_0, r_1_1, r_1_2, r_1_3, r_1_4⟩ | exact ⟨r_2_0, r_2_1, r_2_2, r_2_3, r_2_4⟩)
  (first
  | (go_at_call 104; refine (o.out _ z).mono ?_; rintro e d ⟨_, rfl, rfl, Y⟩
     have r_2_0 := zct Y r_1_0;have r_2_1 := zct Y r_1_1;have r_2_2 := zct Y r_1_2;have r_2_3 := zct Y r_1_3;have r_2_4 := zct Y r_1_4;have h8 := Y.size;have h6 := z.below Y)
  | (go_at_call 155; refine (n.out _ m G).mono ?_; rintro e f ⟨_, rfl, rfl, Z⟩
     have r_1_0 := zct Z x0;have r_1_1 := zct Z x1;have r_1_2 := zct Z b;have r_1_3 := zct Z s;have r_1_4 := zct Z q;have h7 : O.heap.size <= f.heap.size := Z.size;have z := G.below Z))
 have rB : Below O.heap.size O d := zbt (zbt (bdN O 1) Z) Y;go_wp2_with fail;go_ret2;exact ⟨_, rfl, rfl, (zbt U rB)⟩
def halfD (half : Bool) : Nat := if half then 2 else 1
def pQQ (s : Int) (half : Bool) (x : Int) : Rat := mkRat (x + s.tmod 8) (halfD half)
theorem t8b (s : Int) : -7 <= s.tmod 8 /\ s.tmod 8 <= 7 := by
 rcases Int.le_total 0 s with h | h
 ·rw [Int.tmod_eq_emod_of_nonneg h]; omega
 ·have Z : s.tmod 8 = -((-s).tmod 8) := by rw [Int.neg_tmod]; omega
  rw [Z, Int.tmod_eq_emod_of_nonneg (by omega)];omega
theorem pf0 (w : World) (J V U : Int) (Z : Bool) (x y : Int) (_hs0 : -128 <= V /\ V <= 127) (_hs1 : -128 <= U /\ U <= 127) (hx : -100 <= x /\ x <= 100) (hy : -100 <= y /\ y <= 100) (I : Good w) :
 Calls Tryz.prog 74 #[.agg #[.int .u8 J, .int .i8 V, .int .i8 U, .bool Z], .agg #[.int .i8 x, .int .i8 y], .int .i64 1] w (Ret (fun r _ => r = .agg #[.string (RS (pQQ V Z x)), .string (RS (pQQ U Z y))]) w) := by
 have i := t8b V;have h := t8b U;have S := hid fun w I => rOa (x + V.tmod 8) (halfD Z : Int) (x + V.tmod 8) (halfD Z) (halfD Z : Int) rfl (by cases Z <;> decide) (by omega) (by cases Z <;> decide) (.inl ⟨rfl, rfl⟩) w I
 have R := hid fun w I => rOa (y + U.tmod 8) (halfD Z : Int) (y + U.tmod 8) (halfD Z) (halfD Z : Int) rfl (by cases Z <;> decide) (by omega) (by cases Z <;> decide) (.inl ⟨rfl, rfl⟩) w I
 unfold pQQ;obtain ⟨A, o⟩ : ∃ p, p = mkRat (x + V.tmod 8) (halfD Z) := ⟨_, rfl⟩;obtain ⟨z, n⟩ : ∃ p, p = mkRat (y + U.tmod 8) (halfD Z) := ⟨_, rfl⟩;rw [<- o] at S ⊢;rw [<- n] at R ⊢;obtain ⟨C, E⟩ : ∃ m, m = V.tmod 8 := ⟨_, rfl⟩;obtain ⟨B, D⟩ : ∃ m, m = U.tmod 8 := ⟨_, rfl⟩;rw [<- E] at S i;rw [<- D] at R h;have h2 : IntKind.i8.wrap C = C := by unfold IntKind.wrap; simp [IntKind.signed, IntKind.bits]; omega
 have h3 : IntKind.i8.wrap B = B := by unfold IntKind.wrap; simp [IntKind.signed, IntKind.bits]; omega
 have a : IntKind.i64.wrap C = C := IntWalk.i64_in _ (by omega);have h0 : IntKind.i64.wrap B = B := IntWalk.i64_in _ (by omega);have h4 : IntKind.i64.wrap x = x := IntWalk.i64_in _ (by omega);have h6 : IntKind.i64.wrap y = y := IntWalk.i64_in _ (by omega);have h5 : IntKind.i64.wrap (x + C) = x + C := IntWalk.i64_in _ (by omega);have h7 : IntKind.i64.wrap (y + B) = y + B := IntWalk.i64_in _ (by omega);have g := E.symm;have f := D.symm;clear o n E D;cases Z
 ·dsimp only [halfD] at S R
  go_enter Tryz.func74, Tryz.ntmps74;go_wp2_with fail;obtain ⟨W, Q⟩ := zex (((w.alloc (.cells #[.int .u8 J, .int .i8 V, .int .i8 U, .bool false] 25)).alloc (.cells #[.int .i8 x, .int .i8 y] 23)).alloc (.cells #[.string ⟨#[]⟩, .string ⟨#[]⟩] 73));have K : Below w.heap.size w W := by rw [Q]; exact (((Below.refl _ _).alloc (Nat.le_refl _) _).alloc (by simp) _).alloc (by simp; omega) _
  have t : BoxN W w.heap.size 25 [.int .u8 J, .int .i8 V, .int .i8 U, .bool false] := by
   rw [Q];have L := (BoxN.new w #[.int .u8 J, .int .i8 V, .int .i8 U, .bool false] 25 _ rfl);exact (L.below ((Below.refl _ _).alloc (Nat.le_refl _) _) L.lt).below ((Below.refl _ _).alloc (Nat.le_refl _) _) (by simp; omega)
  have s : BoxN W (w.heap.size + 1) 23 [.int .i8 x, .int .i8 y] := by
   rw [Q];have L := (BoxN.new (w.alloc (.cells #[.int .u8 J, .int .i8 V, .int .i8 U, .bool false] 25)) #[.int .i8 x, .int .i8 y] 23 (w.heap.size + 1) (by simp));exact L.below (zal _ _) L.lt
  have q : BoxN W (w.heap.size + 2) 73 [.string ⟨#[]⟩, .string ⟨#[]⟩] := by rw [Q]; exact BoxN.new _ _ _ _ (by simp)
  rw [<- Q];clear Q;refine zR (S.out W (I.below K)) fun w1 hb1' => ?_;have X := K.trans (hb1'.mono K.size);have O := t.bl hb1';have N := s.bl hb1';have M := q.bl hb1';have c0 := N.cell 1 rfl;have c1 := O.cell 2 rfl;clear t s q hb1' K;go_wp2_with fail;refine zR (R.out w1 (I.below X)) fun w2 hb2' => ?_;have H := X.trans (hb2'.mono X.size);have Y := M.bl hb2';obtain ⟨e, d⟩ := zk2 Y;have c := Y.frozen 0;have b := Y.frozen 1;clear c0 c1 O N M hb2' X;go_wp2_with fail;have l := (Y.set 0 (.string (RS A))).set 1 (.string (RS z));have G := (H.setCell (p := ⟨w.heap.size + 2, 0, none⟩) (by show w.heap.size <= w.heap.size + 2; omega) (.string (RS A))).setCell (p := ⟨w.heap.size + 2, 1, none⟩) (by show w.heap.size <= w.heap.size + 2; omega) (.string (RS z));obtain ⟨k, j⟩ := zk2 l;exact bodyPost_ret (v := .agg #[.string (RS A), .string (RS z)]) (by simp [results, Tryz.results74, go_sem, k, j]) rfl ⟨_, rfl, rfl, G⟩
 ·dsimp only [halfD] at S R
  go_enter Tryz.func74, Tryz.ntmps74;go_wp2_with fail;obtain ⟨W, Q⟩ := zex (((w.alloc (.cells #[.int .u8 J, .int .i8 V, .int .i8 U, .bool true] 25)).alloc (.cells #[.int .i8 x, .int .i8 y] 23)).alloc (.cells #[.string ⟨#[]⟩, .string ⟨#[]⟩] 73));have K : Below w.heap.size w W := by rw [Q]; exact (((Below.refl _ _).alloc (Nat.le_refl _) _).alloc (by simp) _).alloc (by simp; omega) _
  have t : BoxN W w.heap.size 25 [.int .u8 J, .int .i8 V, .int .i8 U, .bool true] := by
   rw [Q];have L := (BoxN.new w #[.int .u8 J, .int .i8 V, .int .i8 U, .bool true] 25 _ rfl);exact (L.below ((Below.refl _ _).alloc (Nat.le_refl _) _) L.lt).below ((Below.refl _ _).alloc (Nat.le_refl _) _) (by simp; omega)
  have s : BoxN W (w.heap.size + 1) 23 [.int .i8 x, .int .i8 y] := by
   rw [Q];have L := (BoxN.new (w.alloc (.cells #[.int .u8 J, .int .i8 V, .int .i8 U, .bool true] 25)) #[.int .i8 x, .int .i8 y] 23 (w.heap.size + 1) (by simp));exact L.below (zal _ _) L.lt
  have q : BoxN W (w.heap.size + 2) 73 [.string ⟨#[]⟩, .string ⟨#[]⟩] := by rw [Q]; exact BoxN.new _ _ _ _ (by simp)
  rw [<- Q];clear Q;refine zR (S.out W (I.below K)) fun w1 hb1' => ?_;have X := K.trans (hb1'.mono K.size);have O := t.bl hb1';have N := s.bl hb1';have M := q.bl hb1';have c0 := N.cell 1 rfl;have c1 := O.cell 2 rfl;clear t s q hb1' K;go_wp2_with fail;refine zR (R.out w1 (I.below X)) fun w2 hb2' => ?_;have H := X.trans (hb2'.mono X.size);have Y := M.bl hb2';obtain ⟨e, d⟩ := zk2 Y;have c := Y.frozen 0;have b := Y.frozen 1;clear c0 c1 O N M hb2' X;go_wp2_with fail;have l := (Y.set 0 (.string (RS A))).set 1 (.string (RS z));have G := (H.setCell (p := ⟨w.heap.size + 2, 0, none⟩) (by show w.heap.size <= w.heap.size + 2; omega) (.string (RS A))).setCell (p := ⟨w.heap.size + 2, 1, none⟩) (by show w.heap.size <= w.heap.size + 2; omega) (.string (RS z));obtain ⟨k, j⟩ := zk2 l;exact bodyPost_ret (v := .agg #[.string (RS A), .string (RS z)]) (by simp [results, Tryz.results74, go_sem, k, j]) rfl ⟨_, rfl, rfl, G⟩
def sc0 (k : Nat) (s0 s1 : Int) (half : Bool) : List PtQ := (sPP k).map fun p => (pQQ s0 half p.1, pQQ s1 half p.2)
theorem sPs (k : Nat) : ∀ p ∈ sPP k, (0 <= p.1 /\ p.1 <= 6) /\ (0 <= p.2 /\ p.2 <= 6) := by
 unfold sPP;split <;> decide
theorem sg0 (k : Nat) : (sPP k).length <= 6 := by
 unfold sPP;split <;> decide
theorem iPt : ((Tryz.prog).info? 73).map (fun i => (i.zero, i.size, i.bytes)) = some (some (.agg #[.string ⟨#[]⟩, .string ⟨#[]⟩]), 2, 32) := by kernel_rfl
theorem te0 (x y : ByteArray) : ∀ u ∈ [Value.string x, .string y], u.oneCell' = true := by
 intro u Z;simp at Z;rcases Z with rfl | rfl <;> rfl
theorem md0 (w : World) (H S R : Int) (Z : Bool) (k : Nat) (hk : H.tmod 8 = (k : Int)) (h9 : 0 <= H) (ha : H <= 255) (he : -128 <= S /\ S <= 127) (hf : -128 <= R /\ R <= 127) (d : Good w) :
 Calls Tryz.prog 35 #[.agg #[.int .u8 H, .int .i8 S, .int .i8 R, .bool Z]] w (Ret (fun r w' => ∃ vp vt, r = .agg #[vp, vt] /\ RdP w' vp (strP (sc0 k S R Z)) /\ RdT w' vt (sTT k)) w) := by
 obtain ⟨i0, hi, hF, hG, hH⟩ := info_parts iPt;have b := hid fun w d => sA0 w H k hk h9 ha d;have a := hid (sPs k);have hR := sg0 k;have c : Hid (∀ (i : Nat) (h : i < (sPP k).length) (w : World), Good w -> _) := fun i h w d => pf0 w H S R Z (sPP k)[i].1 (sPP k)[i].2 he hf (by have := sPs k _ (List.getElem_mem h); omega) (by have := sPs k _ (List.getElem_mem h); omega) d
 have h2 : Hid (sc0 k S R Z = (sPP k).map fun p => (pQQ S Z p.1, pQQ R Z p.2)) := rfl;generalize sc0 k S R Z = Q at *;generalize sPP k = N at *;generalize sTT k = T at *;clear hk h9 ha he hf;go_enter Tryz.func35, Tryz.ntmps35;go_wp2_with fail;obtain ⟨W, hW⟩ := zex ((w.alloc (.cells #[.int .u8 H, .int .i8 S, .int .i8 R, .bool Z] 25)).alloc (.cells #[.slice none 0 0, .slice none 0 0] 41));have hB : Below w.heap.size w W := by rw [hW]; exact zal2 _ _ _
 have b1 : BoxN W w.heap.size 25 [.int .u8 H, .int .i8 S, .int .i8 R, .bool Z] := by
  rw [hW];have h1 := (BoxN.new w #[.int .u8 H, .int .i8 S, .int .i8 R, .bool Z] 25 _ rfl);exact h1.below (zal _ _) h1.lt
 have b2 : BoxN W (w.heap.size + 1) 41 [.slice none 0 0, .slice none 0 0] := by rw [hW]; exact BoxN.new _ _ _ _ (by simp)
 rw [<- hW];clear hW;have c0 := b1.cell 0 rfl;go_wp2_with fail;refine (b.out W (d.below hB)).mono ?_;rintro e Y ⟨_, rfl, ⟨vn, vt, rfl, hN, hT⟩, A⟩;have C := zbt hB A;have h3 := b1.bl A;have h4 := b2.bl A;clear A hB b1 b2 c0 b;obtain ⟨pn, cn, rfl, hS, hU, hd⟩ := hN.open;have hr := hid hd;have HT := hid hT;obtain ⟨s, D, rfl, _, _, _⟩ := hT.open;clear hN hT hd;go_wp2_with fail;obtain ⟨W2, B⟩ : ∃ W, W = Y.alloc (.cells #[.slice none 0 0, .slice s T.length D] 41) := ⟨_, rfl⟩;have h7 : Below Y.heap.size Y W2 := by rw [B]; exact zal _ _
 have b5 : BoxN W2 Y.heap.size 41 [.slice none 0 0, .slice s T.length D] := by rw [B]; exact BoxN.new _ _ _ _ rfl
 have hP := zbt C h7;have hz := h3.lt;have hA := h4.lt;have hC := b5.lt;rw [<- B];clear B;have ho := hid h3;go_loopw [6] (fun t6 wr => ∃ (i : Nat) (v : Value), t6 = .int .i64 i /\ i <= N.length /\ BoxN wr Y.heap.size 41 [v, .slice s T.length D] /\ wr.ownsRow (Y.heap.size + 1) 73 2 v i (cPP (strP (Q.take i))) /\ Below Y.heap.size Y wr /\ Y.heap.size + 1 <= wr.heap.size) (fun t6 _ => N.length - (RowKit.intOf t6).toNat)
 case atStart => exact ⟨0, _, rfl, Nat.zero_le _, b5, World.ownsRow_nil _ _ _ _, h7, hC⟩
 case round =>
  obtain ⟨i, v, rfl, hQ, O, I, t, hZ⟩ := hrel;obtain ⟨G, K, rfl⟩ := oRs I;rcases Nat.lt_or_ge i N.length with h | h
  ·obtain ⟨bn, on, rfl, h8, o⟩ := hr.out (by intro e; rw [e] at h; simp at h)
   obtain ⟨n0, n1⟩ := o i h;obtain ⟨⟨e0, e1⟩, e2, e3⟩ := a.out _ (List.getElem_mem h);have HQ : Hid (Q.take (i + 1) = Q.take i ++ [(pQQ S Z N[i].1, pQQ R Z N[i].2)]) := tsc _ _ _ (by rw [h2.out, List.getElem?_map, List.getElem?_eq_getElem h]; rfl);have l := hid (c.out i h);obtain ⟨⟨x, y⟩, hm⟩ : ∃ q, q = N[i] := ⟨_, rfl⟩;rw [<- hm] at n0 n1 e0 e1 e2 e3 l HQ;dsimp only at n0 n1 e0 e1 e2 e3 l HQ;generalize pQQ S Z x = px at *;generalize pQQ R Z y = py at *;have hV : IntKind.i8.wrap x = x := by unfold IntKind.wrap; simp [IntKind.signed, IntKind.bits]; omega
   have hX : IntKind.i8.wrap y = y := by unfold IntKind.wrap; simp [IntKind.signed, IntKind.bits]; omega
   have z0 := O.cell 0 rfl;have z1 := O.frozen 0;have hM : (i : Int) < (N.length : Int) := by omega
   clear o hm c a;go_upto_region 6 with fail;have HF : Hid (∀ w', Below Y.heap.size Y w' -> w'.cell? ⟨w.heap.size, 0, none⟩ = some (.int .u8 H) /\ w'.cell? ⟨w.heap.size, 1, none⟩ = some (.int .i8 S) /\ w'.cell? ⟨w.heap.size, 2, none⟩ = some (.int .i8 R) /\ w'.cell? ⟨w.heap.size, 3, none⟩ = some (.bool Z) /\ w'.cell? ⟨bn, on + i * 2, none⟩ = some (.int .i64 x) /\ w'.cell? ⟨bn, on + i * 2 + 1, none⟩ = some (.int .i64 y)) := fun w' hb => by
    have E := ho.out.below hb hz;exact ⟨E.cell 0 rfl, E.cell 1 rfl, E.cell 2 rfl, E.cell 3 rfl, (zcq hb h8 n0 :), (zcq hb h8 n1 :)⟩
   have h0 : Below Y.heap.size Y wr.drew := t.trans ((bdN wr 1).mono (by omega));have hx : Good wr.drew := (d.below C).below h0;have hp : Hid (∀ M, Below wr.drew.heap.size wr.drew M -> Below Y.heap.size Y M /\ M.cell? ⟨Y.heap.size, 0, none⟩ = some (.slice G i K) /\ M.frozen? ⟨Y.heap.size, 0, none⟩ = false /\ M.ownsRow (Y.heap.size + 1) 73 2 (.slice G i K) i (cPP (strP (Q.take i))) /\ wr.heap.size <= M.heap.size /\ BoxN M Y.heap.size 41 [.slice G i K, .slice s T.length D]) := fun M z => by
    have X : Below wr.heap.size wr M := (bdN wr 1).trans z;exact ⟨h0.trans (z.mono (by show Y.heap.size <= wr.heap.size; omega)), (zcq X O.lt z0 :), (X.frozen (p := ⟨Y.heap.size, 0, none⟩) O.lt).trans z1, WRA I X, X.size, O.bl X⟩
   clear n0 n1;rw [show Op.load 38 (.tmp 21) = id (Op.load 38 (.tmp 21)) from rfl];go_region_held3 (fun w' => w'.cell? ⟨w.heap.size, 0, none⟩ = some (.int .u8 H) /\ w'.cell? ⟨w.heap.size, 1, none⟩ = some (.int .i8 S) /\ w'.cell? ⟨w.heap.size, 2, none⟩ = some (.int .i8 R) /\ w'.cell? ⟨w.heap.size, 3, none⟩ = some (.bool Z) /\ w'.cell? ⟨bn, on + i * 2, none⟩ = some (.int .i64 x) /\ w'.cell? ⟨bn, on + i * 2 + 1, none⟩ = some (.int .i64 y))
    ((refine HF.out _ ?_; first | with_reducible assumption | exact hl | exact m))
    (first
      | (refine step_append_lies _ (by rfl) (.tmp 22) (.tmp 38) 38 (by rfl) (Y.heap.size + 1) 73 i0 (.agg #[.string ⟨#[]⟩, .string ⟨#[]⟩]) 2 32 Tryz.underlying38 hi hF hG hH rfl (by decide) _ i _ (by simp [Act.eval]) (U.alloc _) ⟨M.heap.size, 0, none⟩ 1 1 [.string (RS px), .string (RS py)] (by simp [Act.eval]) rfl (ci0 _ _ _ _) (te0 _ _) (by omega) (by unfold maxLen; omega) (by omega) (by simp; omega) _ rfl ?_
         intro g5 h6 w5 g V hL hO;have J : some Y.heap.size ≠ (Value.slice G i K).ownBlock := fun e => by have := (U.lt _ e.symm).1; omega
         have z5 := (V.cell_far ⟨Y.heap.size, 0, none⟩ (by simp; omega) J).trans (cal _ f);have z3 := (V.frozen_far ⟨Y.heap.size, 0, none⟩ (by simp; omega) J).trans (fal _ f hK);have hu : BoxN w5 Y.heap.size 41 [.slice G i K, .slice s T.length D] := (V.block Y.heap.size (by simp; omega) J).trans (h5.below ((Below.refl _ _).alloc (Nat.le_refl _) _) h5.lt);have hE : Below Y.heap.size Y w5 := (hh.alloc (by omega) _).grown V (by simp; omega) (fun j hj => by have := (U.lt j hj).1; omega);have m : Below Y.heap.size Y (w5.setCell ⟨Y.heap.size, 0, none⟩ (.slice (some ⟨g5, 0, none⟩) (i + 1) h6)) := hE.setCell (Nat.le_refl _) _;have hJ := V.size)
      | (go_at_call 74; refine (l.out _ hx).mono ?_; rintro e M ⟨_, rfl, rfl, z⟩
         obtain ⟨hh, f, hK, U, hY, h5⟩ := hp.out _ z;have z2 := cal (.cells #[.string (RS px), .string (RS py)] 73) f;have hl : Below Y.heap.size Y (M.alloc (.cells #[.string (RS px), .string (RS py)] 73)) := hh.alloc (by omega) _))
   all_goals
    go_wp2_with fail;go_roundw
    case rel => exact ⟨i + 1, _, by simp, by omega, hu.set 0 _, by rw [HQ.out, show cPP (strP (Q.take i ++ [(px, py)])) = cPP (strP (Q.take i)) ++ [.string (RS px), .string (RS py)] by simp [cPP, strP]]; exact ownsRow_setCell_below g (by show Y.heap.size < Y.heap.size + 1; omega) _, m, by simp [World.setCell] at hJ ⊢; omega⟩
    case measure =>
     show N.length - ((i : Int) + 1).toNat < N.length - (i : Int).toNat;omega
  ·obtain rfl : i = N.length := by omega
   have hs : Hid (RdP wr (.slice G N.length K) (strP Q)) := by
    have h1 : RdC 2 wr (.slice G N.length K) N.length (cPP (strP (Q.take N.length))) := RdC.of_owns I;have hD : Q.length = N.length := by rw [h2.out, List.length_map]
    rw [List.take_of_length_le (by omega)] at h1;unfold Hid RdP;rw [sPl, hD];exact h1
   have ht : Hid (RdT wr (.slice s T.length D) T) := RdC.below HT.out t;have L := h4.below t hA;obtain ⟨z0, z1⟩ := zk2 O;obtain ⟨y0, y1⟩ := zk2 L;have y2 := L.frozen 0;have y3 := L.frozen 1;have hw : Below w.heap.size w wr := C.trans (t.mono (by have := C.size; omega));go_wp2_with fail;have BF := (L.set 0 (.slice G N.length K)).set 1 (.slice s T.length D);have hv := (hw.setCell (p := ⟨w.heap.size + 1, 0, none⟩) (by show w.heap.size <= w.heap.size + 1; omega) (.slice G N.length K)).setCell (p := ⟨w.heap.size + 1, 1, none⟩) (by show w.heap.size <= w.heap.size + 1; omega) (.slice s T.length D);obtain ⟨g0, g1⟩ := zk2 BF;have hc : ∀ y ∈ cPP (strP Q), y ≠ .slice none 0 0 := by
    intro y hy;unfold cPP at hy;obtain ⟨q, _, hq⟩ := List.mem_flatMap.1 hy;simp at hq;rcases hq with rfl | rfl <;> simp
   have n : ∀ y ∈ cTT T, y ≠ .slice none 0 0 := by
    intro y hy;unfold cTT at hy;obtain ⟨q, _, hq⟩ := List.mem_flatMap.1 hy;simp at hq;rcases hq with rfl | rfl | rfl <;> simp
   have hn := (L.set 0 (.slice G N.length K)).cell 1 rfl;exact bodyPost_ret (v := .agg #[.slice G N.length K, .slice s T.length D]) (by simp [results, Tryz.results35, go_sem, g0, g1]) rfl ⟨_, rfl, ⟨_, _, rfl, RdC.set_other (RdC.set_other hs.out y0 hc) hn hc, RdC.set_other (RdC.set_other ht.out y0 n) hn n⟩, hv⟩
def hQQ (hs : List Int) (half : Bool) (i : Nat) : Rat := mkRat ((hs[i % 6]?.getD 0).tmod 20) (halfD half)
def hFF (hs : List Int) (half : Bool) (n : Nat) : List Rat := (List.range n).map (hQQ hs half)
theorem he0 (Y : List Int) (Z : Bool) (n : Nat) : (hFF Y Z n).length = n := by simp [hFF]
theorem hFg (Y : List Int) (Z : Bool) (n i : Nat) (h : i < n) : (hFF Y Z n)[i]? = some (hQQ Y Z i) := by
 unfold hFF;rw [List.getElem?_map, List.getElem?_range h]; rfl
theorem t2b (s : Int) : -19 <= s.tmod 20 /\ s.tmod 20 <= 19 := by
 rcases Int.le_total 0 s with h | h
 ·rw [Int.tmod_eq_emod_of_nonneg h]; omega
 ·have Z : s.tmod 20 = -((-s).tmod 20) := by rw [Int.neg_tmod]; omega
  rw [Z, Int.tmod_eq_emod_of_nonneg (by omega)];omega
theorem m1a (w : World) (A : Option Addr) (n I : Nat) (z : Value) (v0 v1 v2 M L K : Int) (Z : Bool) (hb : ∀ x ∈ [v0, v1, v2, M, L, K], -128 <= x /\ x <= 127) (hn : n <= 6) (hg : Good w) :
 Calls Tryz.prog 10 #[.agg #[.slice A n I, z], .agg #[.int .i8 v0, .int .i8 v1, .int .i8 v2, .int .i8 M, .int .i8 L, .int .i8 K, .bool Z]] w (Ret (fun r w' => RdQ w' r (hFF [v0, v1, v2, M, L, K] Z n) /\ FreshV w.heap.size r) w) := by
 obtain ⟨i0, hi, h8, h9, ha⟩ := info_parts isr;obtain ⟨S, k⟩ := zex ([v0, v1, v2, M, L, K] : List Int);have h4 := hid k;rw [<- k] at hb ⊢;have h2 : Hid (∀ i, -128 <= S[i % 6]?.getD 0 /\ S[i % 6]?.getD 0 <= 127) := fun i => by
  cases hx : S[i % 6]? with
  | none => simp
  | some x => exact hb x (List.mem_of_getElem? hx)
 clear hb;clear k;have t : Hid (∀ (i : Nat) (w : World), Good w -> _) := fun i w hg => oQa ((S[i % 6]?.getD 0).tmod 20) (halfD Z : Int) ((S[i % 6]?.getD 0).tmod 20) (halfD Z) (halfD Z : Int) rfl (by cases Z <;> decide) (by have := t2b (S[i % 6]?.getD 0); omega) (by cases Z <;> decide) (.inl ⟨rfl, rfl⟩) w hg
 have y : Hid (∀ i, mkRat ((S[i % 6]?.getD 0).tmod 20) (halfD Z) = hQQ S Z i) := fun i => rfl;have HG : Hid (∀ i, i < n -> (hFF S Z n)[i]? = some (hQQ S Z i)) := fun i h => hFg S Z n i h;have h3 : Hid ((hFF S Z n).length = n) := he0 _ _ _;generalize hFF S Z n = F at *;cases Z
 ·dsimp only [halfD] at t y
  go_enter Tryz.func10, Tryz.ntmps10;go_wp2_with fail;obtain ⟨W, Q⟩ := zex (((w.alloc (.cells #[.slice A n I, z] 41)).alloc (.cells #[.int .i8 v0, .int .i8 v1, .int .i8 v2, .int .i8 M, .int .i8 L, .int .i8 K, .bool false] 28)).alloc (.cells #[] 55));have hB : Below w.heap.size w W := by rw [Q]; exact (((Below.refl _ _).alloc (Nat.le_refl _) _).alloc (by simp) _).alloc (by simp; omega) _
  have b2 : BoxN W w.heap.size 41 [.slice A n I, z] := by
   rw [Q];have R := (BoxN.new w #[.slice A n I, z] 41 _ rfl);exact (R.below ((Below.refl _ _).alloc (Nat.le_refl _) _) R.lt).below ((Below.refl _ _).alloc (Nat.le_refl _) _) (by simp; omega)
  have N : BoxN W (w.heap.size + 1) 28 [.int .i8 v0, .int .i8 v1, .int .i8 v2, .int .i8 M, .int .i8 L, .int .i8 K, .bool false] := by
   rw [Q];have R := (BoxN.new (w.alloc (.cells #[.slice A n I, z] 41)) #[.int .i8 v0, .int .i8 v1, .int .i8 v2, .int .i8 M, .int .i8 L, .int .i8 K, .bool false] 28 (w.heap.size + 1) (by simp));exact R.below (zal _ _) R.lt
  have h0 : W.ownsRow (w.heap.size + 2) 55 1 (.slice (some ⟨w.heap.size + 2, 0, none⟩) 0 0) 0 ([] : List Value) := by
   rw [Q];have := World.ownsRow_lit (base := w.heap.size + 2) (e := 55) (size := 1) ((w.alloc (.cells #[.slice A n I, z] 41)).alloc (.cells #[.int .i8 v0, .int .i8 v1, .int .i8 v2, .int .i8 M, .int .i8 L, .int .i8 K, .bool false] 28)) #[] 0 (by simp) (by decide) rfl;simpa using this
  have hd : W.heap.size = w.heap.size + 3 := by rw [Q]; simp
  rw [<- Q];clear Q;have HC : Hid (∀ i, i < 6 -> W.cell? ⟨w.heap.size + 1, i, none⟩ = some (.int .i8 (S[i % 6]?.getD 0))) := fun i h6 => by
   rw [h4.out];rcases (by omega : i = 0 \/ i = 1 \/ i = 2 \/ i = 3 \/ i = 4 \/ i = 5) with rfl | rfl | rfl | rfl | rfl | rfl
   ·exact N.cell 0 rfl
   ·exact N.cell 1 rfl
   ·exact N.cell 2 rfl
   ·exact N.cell 3 rfl
   ·exact N.cell 4 rfl
   ·exact N.cell 5 rfl
  have c0 := b2.cell 0 rfl;go_loopw [5, 7] (fun t5 t7 wr => ∃ (i : Nat), t7 = .int .i64 i /\ i <= n /\ wr.ownsRow (w.heap.size + 2) 55 1 t5 i ((F.take i).map fun q => Value.string (RS q)) /\ Below (w.heap.size + 2) W wr /\ w.heap.size + 2 <= wr.heap.size) (fun _ t7 _ => n - (RowKit.intOf t7).toNat)
  case atStart => exact ⟨0, rfl, Nat.zero_le _, h0, Below.refl _ _, by omega⟩
  case round =>
   obtain ⟨i, rfl, hh, X, V, C⟩ := hrel;obtain ⟨b, o, rfl⟩ := oRs X;have x0 := zcq V (by show w.heap.size < w.heap.size + 2; omega) c0;have E : Below w.heap.size w wr := hB.trans (V.mono (by omega));rcases Nat.lt_or_ge i n with h | h
   ·have xi := (V.cell (p := ⟨w.heap.size + 1, i, none⟩) (by show w.heap.size + 1 < w.heap.size + 2; omega)).trans (HC.out i (by omega))
    have s := hid (tsc _ _ _ (HG.out i h));have J := hid (t.out i);rw [y.out i] at J;have he := t2b (S[i % 6]?.getD 0);obtain ⟨hk, hm⟩ := h2.out i;generalize hQQ S false i = q at *;generalize S[i % 6]?.getD 0 = v at *;have hp : IntKind.i64.wrap v = v := IntWalk.i64_in _ (by omega);have ho : IntKind.i64.wrap (v.tmod 20) = v.tmod 20 := IntWalk.i64_in _ (by omega);have h7 : IntKind.i64.wrap ((i : Int).tmod 6) = (i : Int) := by
     rw [Int.tmod_eq_emod_of_nonneg (by omega), Int.emod_eq_of_lt (by omega) (by omega)];exact IntWalk.i64_in _ (by omega)
    have f : (i : Int).tmod 6 = (i : Int) := by rw [Int.tmod_eq_emod_of_nonneg (by omega), Int.emod_eq_of_lt (by omega) (by omega)]
    have d : (i : Int) % 6 = (i : Int) := Int.emod_eq_of_lt (by omega) (by omega);have hf : (i : Int) < 6 := by omega
    have h5 : (i : Int) < (n : Int) := by omega
    have D : Good wr := hg.below E;clear c0 HC;go_wp2_with fail;refine zR (J.out wr D) fun w2 hb2 => ?_;have U := WRA X hb2;have H : Below (w.heap.size + 2) W w2 := V.trans (hb2.mono C);have hc : w.heap.size + 2 <= w2.heap.size := Nat.le_trans C hb2.size;clear hb2 X V D x0 xi
    go_wp2_with (at_builtin; refine wpList_append_own _ rfl _ _ 33 rfl (w.heap.size + 2) 55 i0 (.string ⟨#[]⟩) 1 16 Tryz.underlying33 hi h8 h9 ha rfl (by decide) _ _ _ rfl (U.alloc _) ⟨w2.heap.size, 0, none⟩ 1 1 [.string (RS q)] rfl rfl (cos _ _ _) (ocs _) (by unfold maxLen; omega) (by omega) (by simp; omega) ?_
                 intro v2 w3 O Y _;have B := Y.size;have G : Below (w.heap.size + 2) W w3 := (H.alloc (by omega) _).grown Y (by simp; omega) (fun j hj => by have := (U.lt j hj).1; omega);clear Y)
    go_roundw
    case rel => exact ⟨i + 1, by simp, by omega, by rw [s.out, List.map_append]; exact O, G, by simp at B; omega⟩
    case measure =>
     show n - ((i : Int) + 1).toNat < n - (i : Int).toNat;omega
   ·obtain rfl : i = n := by omega
    have m : FreshV (w.heap.size + 2) (.slice b i o) := FreshV.of_owns X;have g : RdQ wr (.slice b i o) F := by
     have R : RdC 1 wr (.slice b i o) i ((F.take i).map fun q => Value.string (RS q)) := RdC.of_owns X;have hl := h3.out;rw [List.take_of_length_le (by omega)] at R;unfold RdQ;rw [hl];exact R
    go_wp2_with fail;go_ret;exact ⟨_, rfl, ⟨g, fun a l c e => by have := m a l c e; omega⟩, E⟩
 ·dsimp only [halfD] at t y
  go_enter Tryz.func10, Tryz.ntmps10;go_wp2_with fail;obtain ⟨W, Q⟩ := zex (((w.alloc (.cells #[.slice A n I, z] 41)).alloc (.cells #[.int .i8 v0, .int .i8 v1, .int .i8 v2, .int .i8 M, .int .i8 L, .int .i8 K, .bool true] 28)).alloc (.cells #[] 55));have hB : Below w.heap.size w W := by rw [Q]; exact (((Below.refl _ _).alloc (Nat.le_refl _) _).alloc (by simp) _).alloc (by simp; omega) _
  have b2 : BoxN W w.heap.size 41 [.slice A n I, z] := by
   rw [Q];have R := (BoxN.new w #[.slice A n I, z] 41 _ rfl);exact (R.below ((Below.refl _ _).alloc (Nat.le_refl _) _) R.lt).below ((Below.refl _ _).alloc (Nat.le_refl _) _) (by simp; omega)
  have N : BoxN W (w.heap.size + 1) 28 [.int .i8 v0, .int .i8 v1, .int .i8 v2, .int .i8 M, .int .i8 L, .int .i8 K, .bool true] := by
   rw [Q];have R := (BoxN.new (w.alloc (.cells #[.slice A n I, z] 41)) #[.int .i8 v0, .int .i8 v1, .int .i8 v2, .int .i8 M, .int .i8 L, .int .i8 K, .bool true] 28 (w.heap.size + 1) (by simp));exact R.below (zal _ _) R.lt
  have h0 : W.ownsRow (w.heap.size + 2) 55 1 (.slice (some ⟨w.heap.size + 2, 0, none⟩) 0 0) 0 ([] : List Value) := by
   rw [Q];have := World.ownsRow_lit (base := w.heap.size + 2) (e := 55) (size := 1) ((w.alloc (.cells #[.slice A n I, z] 41)).alloc (.cells #[.int .i8 v0, .int .i8 v1, .int .i8 v2, .int .i8 M, .int .i8 L, .int .i8 K, .bool true] 28)) #[] 0 (by simp) (by decide) rfl;simpa using this
  have hd : W.heap.size = w.heap.size + 3 := by rw [Q]; simp
  rw [<- Q];clear Q;have HC : Hid (∀ i, i < 6 -> W.cell? ⟨w.heap.size + 1, i, none⟩ = some (.int .i8 (S[i % 6]?.getD 0))) := fun i h6 => by
   rw [h4.out];rcases (by omega : i = 0 \/ i = 1 \/ i = 2 \/ i = 3 \/ i = 4 \/ i = 5) with rfl | rfl | rfl | rfl | rfl | rfl
   ·exact N.cell 0 rfl
   ·exact N.cell 1 rfl
   ·exact N.cell 2 rfl
   ·exact N.cell 3 rfl
   ·exact N.cell 4 rfl
   ·exact N.cell 5 rfl
  have c0 := b2.cell 0 rfl;go_loopw [5, 7] (fun t5 t7 wr => ∃ (i : Nat), t7 = .int .i64 i /\ i <= n /\ wr.ownsRow (w.heap.size + 2) 55 1 t5 i ((F.take i).map fun q => Value.string (RS q)) /\ Below (w.heap.size + 2) W wr /\ w.heap.size + 2 <= wr.heap.size) (fun _ t7 _ => n - (RowKit.intOf t7).toNat)
  case atStart => exact ⟨0, rfl, Nat.zero_le _, h0, Below.refl _ _, by omega⟩
  case round =>
   obtain ⟨i, rfl, hh, X, V, C⟩ := hrel;obtain ⟨b, o, rfl⟩ := oRs X;have x0 := zcq V (by show w.heap.size < w.heap.size + 2; omega) c0;have E : Below w.heap.size w wr := hB.trans (V.mono (by omega));rcases Nat.lt_or_ge i n with h | h
   ·have xi := (V.cell (p := ⟨w.heap.size + 1, i, none⟩) (by show w.heap.size + 1 < w.heap.size + 2; omega)).trans (HC.out i (by omega))
    have s := hid (tsc _ _ _ (HG.out i h));have J := hid (t.out i);rw [y.out i] at J;have he := t2b (S[i % 6]?.getD 0);obtain ⟨hk, hm⟩ := h2.out i;generalize hQQ S true i = q at *;generalize S[i % 6]?.getD 0 = v at *;have hp : IntKind.i64.wrap v = v := IntWalk.i64_in _ (by omega);have ho : IntKind.i64.wrap (v.tmod 20) = v.tmod 20 := IntWalk.i64_in _ (by omega);have h7 : IntKind.i64.wrap ((i : Int).tmod 6) = (i : Int) := by
     rw [Int.tmod_eq_emod_of_nonneg (by omega), Int.emod_eq_of_lt (by omega) (by omega)];exact IntWalk.i64_in _ (by omega)
    have f : (i : Int).tmod 6 = (i : Int) := by rw [Int.tmod_eq_emod_of_nonneg (by omega), Int.emod_eq_of_lt (by omega) (by omega)]
    have d : (i : Int) % 6 = (i : Int) := Int.emod_eq_of_lt (by omega) (by omega);have hf : (i : Int) < 6 := by omega
    have h5 : (i : Int) < (n : Int) := by omega
    have D : Good wr := hg.below E;clear c0 HC;go_wp2_with fail;refine zR (J.out wr D) fun w2 hb2 => ?_;have U := WRA X hb2;have H : Below (w.heap.size + 2) W w2 := V.trans (hb2.mono C);have hc : w.heap.size + 2 <= w2.heap.size := Nat.le_trans C hb2.size;clear hb2 X V D x0 xi
    go_wp2_with (at_builtin; refine wpList_append_own _ rfl _ _ 33 rfl (w.heap.size + 2) 55 i0 (.string ⟨#[]⟩) 1 16 Tryz.underlying33 hi h8 h9 ha rfl (by decide) _ _ _ rfl (U.alloc _) ⟨w2.heap.size, 0, none⟩ 1 1 [.string (RS q)] rfl rfl (cos _ _ _) (ocs _) (by unfold maxLen; omega) (by omega) (by simp; omega) ?_
                 intro v2 w3 O Y _;have B := Y.size;have G : Below (w.heap.size + 2) W w3 := (H.alloc (by omega) _).grown Y (by simp; omega) (fun j hj => by have := (U.lt j hj).1; omega);clear Y)
    go_roundw
    case rel => exact ⟨i + 1, by simp, by omega, by rw [s.out, List.map_append]; exact O, G, by simp at B; omega⟩
    case measure =>
     show n - ((i : Int) + 1).toNat < n - (i : Int).toNat;omega
   ·obtain rfl : i = n := by omega
    have m : FreshV (w.heap.size + 2) (.slice b i o) := FreshV.of_owns X;have g : RdQ wr (.slice b i o) F := by
     have R : RdC 1 wr (.slice b i o) i ((F.take i).map fun q => Value.string (RS q)) := RdC.of_owns X;have hl := h3.out;rw [List.take_of_length_le (by omega)] at R;unfold RdQ;rw [hl];exact R
    go_wp2_with fail;go_ret;exact ⟨_, rfl, ⟨g, fun a l c e => by have := m a l c e; omega⟩, E⟩
def ss0 (k : Nat) : List PtQ := (sPP k).map fun p => ((p.1 : Rat), (p.2 : Rat))
def formB (P : List PtQ) (T : List Tri) : Bool :=
 !T.isEmpty && (decide P.Nodup && (T.all (fun t => (idxOf t).all fun x => decide (0 <= x /\ x < (P.length : Int))) && (T.all (fun t => decide (0 < turnZ (P[t.1.toNat]?.getD (0, 0)) (P[t.2.1.toNat]?.getD (0, 0)) (P[t.2.2.toNat]?.getD (0, 0)))) &&
  (wBB P T && (oLL (kOf T)).all fun x => decide (0 <= x /\ x < (P.length : Int))))))
theorem sfm (k : Nat) : formB (ss0 k) (sTT k) = true := by
 unfold ss0 sPP sTT;split <;> decide +kernel
theorem gDm (s t d : Rat) (P : List PtQ) (i : Nat) (h : i < P.length) : (P.map (moveP s t d))[i]?.getD (0, 0) = moveP s t d (P[i]?.getD (0, 0)) := by
 rw [List.getElem?_map, List.getElem?_eq_getElem h]; rfl
theorem pAm (s t d : Rat) (P : List PtQ) (c : List Int) (X : ∀ x ∈ c, 0 <= x /\ x < (P.length : Int)) (Z : c ≠ []) (i : Nat) : ptAt (P.map (moveP s t d)) c i = moveP s t d (ptAt P c i) := by
 unfold ptAt;have Y : i % c.length < c.length := Nat.mod_lt _ (List.length_pos_iff.2 Z);have := X c[i % c.length] (List.getElem_mem Y);rw [List.getElem?_eq_getElem Y, Option.getD_some];exact gDm s t d P _ (by omega)
theorem mPi (s t d : Rat) (V : 0 < d) {p q : PtQ} (h : moveP s t d p = moveP s t d q) : p = q := by
 unfold moveP at h;have Y := congrArg Prod.fst h;have X := congrArg Prod.snd h;dsimp only at Y X;have key : ∀ a b z : Rat, (a + z) * d = (b + z) * d -> a = b := fun a b z e => by
  have U : (a - b) * d = 0 := by grind
  rcases Rat.mul_eq_zero.1 U with Z | Z
  ·grind
  ·rw [Z] at V; exact absurd V (Rat.lt_irrefl)
 exact Prod.ext (key _ _ _ Y) (key _ _ _ X)
theorem fme (s t d : Rat) (S : 0 < d) (P : List PtQ) (T : List Tri) (h : formB P T = true) : formB (P.map (moveP s t d)) T = true := by
 unfold formB at *;simp only [Bool.and_eq_true, List.all_eq_true, decide_eq_true_eq, List.length_map] at *;obtain ⟨L, K, Q, J, U, O⟩ := h;have X : ∀ t ∈ T, ∀ x ∈ idxOf t, x.toNat < P.length := fun t ht x hx => by have := Q t ht x hx; omega
 refine ⟨L, ?_, Q, ?_, ?_, O⟩
 ·exact List.Pairwise.map _ (fun a b hab e => hab (mPi s t d S e)) K
 ·intro V Y
  have I := X V Y V.1 (by simp [idxOf]);have H := X V Y V.2.1 (by simp [idxOf]);have G := X V Y V.2.2 (by simp [idxOf]);rw [gDm _ _ _ _ _ I, gDm _ _ _ _ _ H, gDm _ _ _ _ _ G, tZm s t d S];exact J V Y
 ·unfold wBB at *
  simp only [Bool.and_eq_true, List.length_map] at *;refine ⟨U.1, ⟨U.2.1.1, U.2.1.2⟩, ?_⟩;have R : oLL (kOf T) ≠ [] := by
   have := U.2.1.1;intro e;rw [e] at this;simp at this
  have Z := pAm s t d P (oLL (kOf T)) O R;rw [<- U.2.2];unfold onceB rNN;have N : bAt (P.map (moveP s t d)) (oLL (kOf T)) = bAt P (oLL (kOf T)) := funext fun i => by unfold bAt; rw [Z, Z, Z, tZm s t d S]
  have M : rAt (P.map (moveP s t d)) (oLL (kOf T)) = rAt P (oLL (kOf T)) := funext fun i => by unfold rAt upAt; rw [Z, Z, Z, uBm s t d S, uBm s t d S]
  rw [N, M]
theorem MeshOK.of_form {P : List PtQ} {T : List Tri} {k : Nat} (R : 0 < k) (Z : k <= 200) (O : ∀ p ∈ P, SzP k p) (Q : P.length <= 400) (N : T.length <= 800) (h : formB P T = true) : MeshOK P T k := by
 unfold formB at h;simp only [Bool.and_eq_true, List.all_eq_true, decide_eq_true_eq] at h;obtain ⟨Y, X, V, U, S, M⟩ := h;exact { kpos := R, klim := by omega, sz := O, plen := Q, tlen := N, idx := V, klim2 := Z, some := by intro e; rw [e] at Y; simp at Y, apart := X, turns := U, whole := S }
theorem pQm (s : Int) (Z : Bool) (x : Int) : pQQ s Z x = ((x : Rat) + (s.tmod 8 : Int)) * (1 / (halfD Z : Rat)) := by
 unfold pQQ;have Y : (halfD Z : Rat) ≠ 0 := by cases Z <;> decide
 rw [Rat.mkRat_eq_div];grind
theorem pQS (s : Int) (Z : Bool) (x : Int) (hx : 0 <= x /\ x <= 6) : Sz 2 (pQQ s Z x) := by
 have := t8b s;exact Sz.mkRat (by cases Z <;> decide) (by omega) (by cases Z <;> decide)
theorem sr0 (k : Nat) (Y X : Int) (Z : Bool) : MeshOK (sc0 k Y X Z) (sTT k) 2 := by
 refine MeshOK.of_form (by omega) (by omega) ?_ ?_ ?_ ?_
 ·intro p V
  obtain ⟨q, hq, rfl⟩ := List.mem_map.1 V;have := sPs k q hq;exact ⟨pQS _ _ _ this.1, pQS _ _ _ this.2⟩
 ·unfold sc0
  have := sg0 k;rw [List.length_map]; omega
 ·unfold sTT
  split <;> decide
 ·have e : sc0 k Y X Z = (ss0 k).map (moveP (Y.tmod 8 : Int) (X.tmod 8 : Int) (1 / (halfD Z : Rat))) := by
   unfold sc0 ss0;rw [List.map_map];refine List.map_congr_left fun p _ => ?_;show (_, _) = moveP _ _ _ _;unfold moveP;rw [pQm, pQm]
  rw [e];exact fme _ _ _ (by cases Z <;> decide +kernel) _ _ (sfm k)
theorem sz1 (n : Nat) (h : n < 10) : Sz 1 ((n : Int) : Rat) := ⟨by rw [Rat.num_intCast]; omega, by rw [Rat.den_intCast]; omega⟩
theorem hSz (Y : List Int) (Z : Bool) (n : Nat) : ∀ q ∈ hFF Y Z n, Sz 2 q := fun q hq => by
 obtain ⟨i, _, rfl⟩ := List.mem_map.1 hq;unfold hQQ;have := t2b (Y[i % 6]?.getD 0);exact Sz.mkRat (by cases Z <;> decide) (by omega) (by cases Z <;> decide)
theorem sf0 (k : Nat) (Y X : Int) (Z : Bool) : (sc0 k Y X Z).length = (sPP k).length := by simp [sc0]
theorem sif (q : Rat) : q.num.sign = if q < 0 then -1 else if 0 < q then 1 else 0 := by
 split
 ·rename_i h; exact Int.sign_eq_neg_one_of_neg (num_lt_zero_iff.2 h)
 ·split
  ·rename_i h; exact Int.sign_eq_one_of_pos (num_pos_iff.2 h)
  ·rename_i h1 h2
   have : q = 0 := Rat.le_antisymm (Rat.not_lt.1 h2) (Rat.not_lt.1 h1);subst this; rfl
theorem gbw {W wr wx : World} {M : Option Nat} (h : W.grownBy wr M) (Z : Below wr.heap.size wr wx) : W.grownBy wx M :=
 ⟨Z.os.trans h.os, Z.tape.trans h.tape, Z.output.trans h.output, Nat.le_trans h.size Z.size, fun j hj hjn => (Z.block j (Nat.lt_of_lt_of_le hj h.size)).trans (h.block j hj hjn)⟩
theorem gst {W wr : World} {M : Nat} (h : W.grownBy wr (some M)) (i : Nat) (v : Value) : W.grownBy (wr.setCell ⟨M, i, none⟩ v) (some M) :=
 ⟨h.os, h.tape, h.output, by simpa using h.size, fun j hj hjn => (Below.heap_setCell _ _ _ j (by rintro rfl; exact hjn rfl)).trans (h.block j hj hjn)⟩
theorem grl (W : World) (M : Option Nat) : W.grownBy W M := ⟨rfl, rfl, rfl, Nat.le_refl _, fun _ _ _ => rfl⟩
theorem BoxN.gb {w w' : World} {M : Option Nat} {b t : Nat} {l : List Value} (h : BoxN w b t l) (Z : w.grownBy w' M) (Y : M ≠ some b) : BoxN w' b t l := (Z.block b h.lt (fun e => Y e.symm)).trans h
theorem RdC.gb {sz : Nat} {w w' : World} {v : Value} {n M t : Nat} {cs l : List Value} (h : RdC sz w v n cs) (K : w.grownBy w' (some M)) (N : BoxN w M t l) (V : ∀ y ∈ cs, y ∉ l) : RdC sz w' v n cs := by
 obtain ⟨p, q, G, U, S, R, Q⟩ := h;refine ⟨p, q, G, U, S, R, fun hn => ?_⟩;obtain ⟨b, off, I, H⟩ := Q hn;refine ⟨b, off, I, fun i x hx => ?_⟩;have Z := H i x hx;have Y : b ≠ M := by
  rintro rfl;have J : w.heap[b]? = some (.cells l.toArray t (0, 0)) := N;have O : l[off + i]? = some x := by
   simp [World.cell?, J] at Z;exact Z
  exact V x (List.mem_of_getElem? hx) (List.mem_of_getElem? O)
 have X : b < w.heap.size := by
  rcases Nat.lt_or_ge b w.heap.size with h | h
  ·exact h
  ·have : w.heap[b]? = none := Array.getElem?_eq_none h
   simp [World.cell?, this] at Z
 have L := K.block b X (by intro e; injection e with e; exact Y e);have : w'.cell? ⟨b, off + i, none⟩ = w.cell? ⟨b, off + i, none⟩ := by simp [World.cell?, L]
 rw [this]; exact Z
open Go.Shelf
attribute [local go_sem] Oper.semAt_some
theorem MeshOK.nodup {P : List PtQ} {T : List Tri} {k : Nat} (h : MeshOK P T k) : (kOf T).Nodup := by
 have := h.whole;unfold wBB at this;rw [Bool.and_eq_true] at this;exact of_decide_eq_true this.1
end Go.Proofs.YtmcbeajdloaliaaGreatDoor
namespace Go.Proofs.YtmcbeajdloaliaaGreatDoor
open Go.RowKit Go.Lib
theorem FreshV.mono {n m : Nat} {v : Value} (h : FreshV n v) (Z : m <= n) : FreshV m v := fun a l c e => Nat.le_trans Z (h a l c e)
theorem aQS {a b c : PtQ} {k : Nat} (Z : SzP k a) (Y : SzP k b) (X : SzP k c) : Sz (8 * k + 5) (areaQ a b c) := by
 unfold areaQ;exact (((Y.1.sub Z.1).mul (X.2.sub Z.2)).sub ((Y.2.sub Z.2).mul (X.1.sub Z.1))).mono (by omega)
abbrev Cor := PtQ × Rat
def towQ (a b k : Rat) : Rat := a + k * (b - a)
theorem fb0 (a b x : Rat) (k : Nat) (M : 0 < k) (L : k <= 5000) (X : Sz k a) (S : Sz k b) (hx : Sz k x) (w : World) (Z : Good w) :
 Calls Tryz.prog 180 #[.string (RS a), .string (RS b), .string (RS x)] w (Ret (fun r _ => r = .string (RS (towQ a b x))) w) := by
 have V : Sz (2 * k + 1) (b - a) := (S.sub X).mono (by omega);have R : Sz (3 * k + 1) (x * (b - a)) := (hx.mul V).mono (by omega);have Q := hid fun w Z => rSa b a k M (by omega) S X w Z
 have O := hid fun w Z => rMa x (b - a) (2 * k + 1) (by omega) (by omega) (hx.mono (by omega)) V w Z
 have N := hid fun w Z => rAa a (x * (b - a)) (3 * k + 1) (by omega) (by omega) (X.mono (by omega)) R w Z
 unfold towQ;generalize a + x * (b - a) = r at *;generalize x * (b - a) = q at *;generalize b - a = p at *;clear X S hx V R;go_enter Tryz.func180, Tryz.ntmps180;go_wp2_with fail;refine zR (Q.out _ Z) fun w1 hb1 => ?_;go_wp2_with fail;refine zR (O.out w1 (Z.below hb1)) fun w2 hb2 => ?_;have Y := zbt hb1 hb2;go_wp2_with fail;refine zR (N.out w2 (Z.below Y)) fun w3 hb3 => ?_;have U := zbt Y hb3;go_wp2_with fail;go_ret;exact ⟨_, rfl, rfl, U⟩
theorem iC0 (a b c d e f g h i : Value) (w : World) : (Instr.index 215 (.agg #[a, b, c, d, e, f, g, h, i]) (.int .i64 0)).run Tryz.prog w = .ok (.agg #[a, b, c]) w := by kernel_rfl
theorem iC1 (a b c d e f g h i : Value) (w : World) : (Instr.index 215 (.agg #[a, b, c, d, e, f, g, h, i]) (.int .i64 1)).run Tryz.prog w = .ok (.agg #[d, e, f]) w := by kernel_rfl
theorem iC2 (a b c d e f g h i : Value) (w : World) : (Instr.index 215 (.agg #[a, b, c, d, e, f, g, h, i]) (.int .i64 2)).run Tryz.prog w = .ok (.agg #[g, h, i]) w := by kernel_rfl
def cellC (c : Cor) : List Value := [.string (RS c.1.1), .string (RS c.1.2), .string (RS c.2)]
def cCC (l : List Cor) : List Value := l.flatMap cellC
def RdK (w : World) (v : Value) (l : List Cor) : Prop := RdC 3 w v l.length (cCC l)
theorem cCs (l : List Cor) (c : Cor) : cCC (l ++ [c]) = cCC l ++ [.string (RS c.1.1), .string (RS c.1.2), .string (RS c.2)] := by simp [cCC, cellC]
theorem RdK.open {w : World} {v : Value} {l : List Cor} (h : RdK w v l) : ∃ p c, v = .slice p l.length c /\ l.length <= c /\ c <= maxLen /\
 (l ≠ [] -> ∃ b off, p = some ⟨b, off, none⟩ /\ b < w.heap.size /\ ∀ (i : Nat) (Y : i < l.length), w.cell? ⟨b, off + i * 3, none⟩ = some (.string (RS l[i].1.1)) /\ w.cell? ⟨b, off + i * 3 + 1, none⟩ = some (.string (RS l[i].1.2)) /\ w.cell? ⟨b, off + i * 3 + 2, none⟩ = some (.string (RS l[i].2))) := by
 obtain ⟨p, c, Q, V, U, O, S⟩ := h;refine ⟨p, c, Q, V, U, fun hne => ?_⟩;obtain ⟨b, off, R, X⟩ := S (by
  cases l with
  | nil => exact absurd rfl hne
  | cons a l => simp [cCC, cellC])
 have Z : ∀ (i : Nat) (Y : i < l.length), w.cell? ⟨b, off + i * 3, none⟩ = some (.string (RS l[i].1.1)) /\ w.cell? ⟨b, off + i * 3 + 1, none⟩ = some (.string (RS l[i].1.2)) /\ w.cell? ⟨b, off + i * 3 + 2, none⟩ = some (.string (RS l[i].2)) := fun i Y => by
  have e := gEf cellC 3 (fun _ => rfl) l i;refine ⟨?_, ?_, ?_⟩
  ·have := X (i * 3) (.string (RS l[i].1.1)) (by have := e 0 (by omega); rw [Nat.add_zero] at this; unfold cCC; rw [this, List.getElem?_eq_getElem Y]; rfl)
   exact this
  ·have := X (i * 3 + 1) (.string (RS l[i].1.2)) (by have := e 1 (by omega); unfold cCC; rw [this, List.getElem?_eq_getElem Y]; rfl)
   rw [<- Nat.add_assoc] at this;exact this
  ·have := X (i * 3 + 2) (.string (RS l[i].2)) (by have := e 2 (by omega); unfold cCC; rw [this, List.getElem?_eq_getElem Y]; rfl)
   rw [<- Nat.add_assoc] at this;exact this
 exact ⟨b, off, R, World.block_lt_of_cell? w _ (Z 0 (List.length_pos_iff.2 hne)).1, Z⟩
def cKK (a b : Cor) (z : Rat) : Cor := ((towQ a.1.1 b.1.1 ((a.2 - z) / ((a.2 - z) - (b.2 - z))), towQ a.1.2 b.1.2 ((a.2 - z) / ((a.2 - z) - (b.2 - z)))), z)
def cutS (a b : Cor) (z : Rat) : List Cor := (if 0 <= (a.2 - z).num.sign then [a] else []) ++ (if (a.2 - z).num.sign * (b.2 - z).num.sign < 0 then [cKK a b z] else [])
def corA (c0 c1 c2 : Cor) : Nat -> Cor | 0 => c0 | 1 => c1 | _ => c2
def corB (c0 c1 c2 : Cor) : Nat -> Cor | 0 => c1 | 1 => c2 | _ => c0
def cutTo (c0 c1 c2 : Cor) (z : Rat) : Nat -> List Cor | 0 => [] | i + 1 => cutTo c0 c1 c2 z i ++ cutS (corA c0 c1 c2 i) (corB c0 c1 c2 i) z
def se0 (c0 c1 c2 : Cor) (z : Rat) : Nat -> Bool | 0 => false | i + 1 => se0 c0 c1 c2 z i || decide (0 < ((corA c0 c1 c2 i).2 - z).num.sign)
def cutL (c0 c1 c2 : Cor) (z : Rat) : List Cor := if se0 c0 c1 c2 z 3 then cutTo c0 c1 c2 z 3 else []
theorem cSl (a b : Cor) (z : Rat) : (cutS a b z).length <= 2 := by
 unfold cutS;rw [List.length_append];split <;> split <;> simp
theorem cj0 (c0 c1 c2 : Cor) (z : Rat) : ∀ i, (cutTo c0 c1 c2 z i).length <= 2 * i
 | 0 => by simp [cutTo]
 | i + 1 => by
   have Z := cj0 c0 c1 c2 z i;have Y := cSl (corA c0 c1 c2 i) (corB c0 c1 c2 i) z;unfold cutTo;rw [List.length_append];omega
theorem cTn (c0 c1 c2 : Cor) (z : Rat) : ∀ i, se0 c0 c1 c2 z i = true -> cutTo c0 c1 c2 z i ≠ []
 | 0, h => by simp [se0] at h
 | i + 1, h => by
   unfold se0 at h;rw [Bool.or_eq_true] at h;unfold cutTo;rcases h with h | h
   ·intro e
    exact cTn c0 c1 c2 z i h (List.append_eq_nil_iff.1 e).1
   ·have Y := of_decide_eq_true h
    intro e;have Z := (List.append_eq_nil_iff.1 e).2;unfold cutS at Z;rw [if_pos (by omega)] at Z;simp at Z
theorem szt (q : Rat) : (RS q).toList = [48] ↔ q.num.sign = 0 := by
 have h := Re4 q;rw [Int.sign_eq_zero_iff_zero, Rat.num_eq_zero];by_cases hq : q = 0
 ·rw [decide_eq_true hq] at h
  exact ⟨fun _ => hq, fun _ => by simpa using h⟩
 ·rw [decide_eq_false hq] at h
  exact ⟨fun e => by rw [e] at h; simp at h, fun e => absurd e hq⟩
theorem sign3 (q : Rat) : q.num.sign = -1 \/ q.num.sign = 0 \/ q.num.sign = 1 := by
 rcases Int.lt_trichotomy q.num 0 with h | h | h
 ·exact .inl (Int.sign_eq_neg_one_of_neg h)
 ·exact .inr (.inl (by rw [h]; rfl))
 ·exact .inr (.inr (Int.sign_eq_one_of_pos h))
theorem icr : ((Tryz.prog).info? 214).map (fun i => (i.zero, i.size, i.bytes)) = some (some (.agg #[.string ⟨#[]⟩, .string ⟨#[]⟩, .string ⟨#[]⟩]), 3, 48) := by kernel_rfl
theorem cte (w : World) (x y z : Value) (E : Nat) : ∀ (j : Nat) (u : Value), [x, y, z][j]? = some u -> (w.alloc (.cells #[x, y, z] E)).cell? ((⟨w.heap.size, 0, none⟩ : Addr).add j) = some u := World.news_of_block (cs := #[x, y, z]) (t := E) (fr := (0, 0)) (World.alloc_heap_new w _)
theorem tsr (x y z : ByteArray) : ∀ u ∈ [Value.string x, .string y, .string z], u.oneCell' = true := by
 intro u Z; simp at Z; rcases Z with rfl | rfl | rfl <;> rfl
def corP (P : List PtQ) (F : List Rat) (z : Int) : Cor := (ptI P z, hI F z)
def partT (P : List PtQ) (F : List Rat) (z : Rat) (tr : Tri) : List Cor := cutL (corP P F tr.1) (corP P F tr.2.1) (corP P F tr.2.2) z
def triI (T : List Tri) (j : Int) : Tri := T[j.toNat]?.getD (0, 0, 0)
theorem tIn (T : List Tri) (m : Nat) (h : m < T.length) : triI T (m : Int) = T[m] := by
 unfold triI; rw [Int.toNat_natCast, List.getElem?_eq_getElem h]; rfl
def corI (l : List Cor) (i : Nat) : Cor := l[i]?.getD ((0, 0), 0)
theorem cIn (l : List Cor) (i : Nat) (h : i < l.length) : corI l i = l[i] := by
 unfold corI; rw [List.getElem?_eq_getElem h]; rfl
theorem cLl (c0 c1 c2 : Cor) (z : Rat) : (cutL c0 c1 c2 z).length <= 6 := by
 unfold cutL;split
 ·exact cj0 c0 c1 c2 z 3
 ·simp
def fanI (c : List Cor) (z : Rat) : Nat -> Rat
 | 0 => 0
 | n + 1 => fanI c z n + areaQ (corI c 0).1 (corI c (n + 1)).1 (corI c (n + 2)).1 * (1 / 2) * (((corI c 0).2 + (corI c (n + 1)).2 + (corI c (n + 2)).2) * (1 / 3) - z)
def integ (c : List Cor) (z : Rat) : Rat := fanI c z (c.length - 2)
def volTo (P : List PtQ) (T : List Tri) (F : List Rat) (z : Rat) : Nat -> Rat
 | 0 => 0
 | t + 1 => volTo P T F z t + integ (partT P F z (triI T t)) z
end Go.Proofs.YtmcbeajdloaliaaGreatDoor
