import Derived.Test.YtbfcmipplhkkeaaGreatDoorVE5
/- The walks over field.level, field.Level. The walks over field.integral, field.volume, field.Volume. The walks over field.volume, field.Volume. A region that draws its order, with a condition on the world that may end with -/
set_option maxHeartbeats 8000000
set_option maxRecDepth 100000
namespace Go.Proofs.YtbfcmipplhkkeaaGreatDoor
open Go.RowKit Go.Lib
theorem fok (w : World) (K J L : Value) (P : List PtQ) (T : List Tri) (k : Nat) (F : List Rat) (h : FieldIn w K J L P T k F) (z : Rat) (R : Sz 200 z) (N : Good w) :
 Calls Tryz.prog 27 #[.agg #[K, J], L, .string (RS z)] w (Ret (fun r _ => r = .int .i64 0) w) := by
 have H := Lib.hid h;have B := R.size (by omega);have I : Hid (eNm (rQQ (RS z).data.toList) = 0) := by unfold Hid; rw [Rlt, rQR R]; rfl
 obtain ⟨D, G, C, E, M, O, rfl, rfl, rfl⟩ := h.open;generalize RS z = sz at *;clear h R;go_enter Tryz.func27, Tryz.ntmps27;go_wp2_with fail;obtain ⟨W, V⟩ := zex ((w.alloc (.cells #[.slice D P.length G, .slice C T.length E] 35)).alloc (.cells #[.slice M F.length O] 38));have X : Below w.heap.size w W := by rw [V]; exact zal2 _ _ _
 have Q : BoxN W (w.heap.size + 1) 38 [.slice M F.length O] := by rw [V]; exact BoxN.new _ _ _ _ (by simp)
 rw [<- V];clear V;refine (cg0 (H.out.below X) _ (Q.cell 0 rfl) (N.below X)).mono ?_;rintro e A ⟨_, rfl, rfl, Y⟩;have Z := zbt X Y;clear Y X Q;go_wp2_with fail;refine (cQa sz (by omega) _ (N.below Z)).mono ?_;rintro e y ⟨_, rfl, rfl, S⟩;rw [I.out];have U := zbt Z S;go_wp2_with fail;go_ret;exact ⟨_, rfl, rfl, U⟩
theorem ist : ((Tryz.prog).info? 52).map (fun i => (i.zero, i.size, i.bytes)) = some (some (.agg #[.int .i64 0, .string ⟨#[]⟩, .string ⟨#[]⟩, .string ⟨#[]⟩, .string ⟨#[]⟩]), 5, 72) := by kernel_rfl
theorem cfe (w : World) (x y z u v : Value) (E : Nat) : ∀ (j : Nat) (r : Value), [x, y, z, u, v][j]? = some r -> (w.alloc (.cells #[x, y, z, u, v] E)).cell? ((⟨w.heap.size, 0, none⟩ : Addr).add j) = some r := World.news_of_block (cs := #[x, y, z, u, v]) (t := E) (fr := (0, 0)) (World.alloc_heap_new w _)
theorem foe (i : Int) (x y z u : ByteArray) : ∀ r ∈ [Value.int .i64 i, .string x, .string y, .string z, .string u], r.oneCell' = true := by
 intro r Z; simp at Z; rcases Z with rfl | rfl | rfl | rfl | rfl <;> rfl
theorem ron {w : World} {base e : Nat} {v : Value} {l : List Cor} (h : w.ownsRow base e 3 v l.length (cCC l)) (Z : l ≠ []) : ∃ g c, v = .slice (some ⟨g, 0, none⟩) l.length c /\
 ∀ (i : Nat) (Y : i < l.length), w.cell? ⟨g, i * 3, none⟩ = some (.string (RS l[i].1.1)) /\ w.cell? ⟨g, i * 3 + 1, none⟩ = some (.string (RS l[i].1.2)) /\ w.cell? ⟨g, i * 3 + 2, none⟩ = some (.string (RS l[i].2)) := by
 have Q := List.length_pos_iff.2 Z;rcases h.2 with ⟨_, R⟩ | ⟨g, cap, X, rfl, _, _, _⟩
 ·omega
 ·obtain ⟨p, c, S, _, _, U⟩ := RdK.open (show RdK w _ l from RdC.of_owns h)
  obtain ⟨b, off, rfl, _, V⟩ := U Z;injection S with h1 h2 h3
  injection h1 with h1
  injection h1 with h1 h4 _
  subst h1 h4 h3;refine ⟨g, cap, rfl, fun i Y => ?_⟩;have := V i Y;simpa using this
def PartV (w : World) (B : Nat) (v : Value) (l : List Cor) : Prop := w.ownsRow B 89 3 v l.length (cCC l) /\ (l = [] -> v = .slice none 0 0)
def SegV (w : World) (B : Nat) (v : Value) (l : List Seg) : Prop := w.ownsRow B 52 5 v l.length (cGG l)
theorem pd0 (P : List PtQ) (F : List Rat) (tr : Tri) (z : Rat) (k m : Nat) (Q : 0 < k) (S : k + m <= 300) (Z : ∀ x ∈ idxOf tr, SzP k (ptI P x) /\ Sz k (hI F x)) (R : Sz m z) (w : World) (U : Good w) :
 Calls Tryz.prog 29 #[.agg #[.string (RS (ptI P tr.1).1), .string (RS (ptI P tr.1).2), .string (RS (hI F tr.1)), .string (RS (ptI P tr.2.1).1), .string (RS (ptI P tr.2.1).2), .string (RS (hI F tr.2.1)), .string (RS (ptI P tr.2.2).1), .string (RS (ptI P tr.2.2).2), .string (RS (hI F tr.2.2))], .string (RS z)] w (Ret (fun r w' => PartV w' w.heap.size r (partT P F z tr)) w) := by
 have Y := Z tr.1 (by simp [idxOf]);have X := Z tr.2.1 (by simp [idxOf]);have V := Z tr.2.2 (by simp [idxOf]);exact ff0 (corP P F tr.1) (corP P F tr.2.1) (corP P F tr.2.2) z (k + m) (by omega) (by omega) ⟨⟨Y.1.1.mono (by omega), Y.1.2.mono (by omega)⟩, Y.2.mono (by omega)⟩ ⟨⟨X.1.1.mono (by omega), X.1.2.mono (by omega)⟩, X.2.mono (by omega)⟩ ⟨⟨V.1.1.mono (by omega), V.1.2.mono (by omega)⟩, V.2.mono (by omega)⟩ (R.mono (by omega)) w U
theorem s3a (P : List PtQ) (F : List Rat) (tr : Tri) (a b : PtQ) (w : World) :
 Calls Tryz.prog 30 #[.agg #[.string (RS (ptI P tr.1).1), .string (RS (ptI P tr.1).2), .string (RS (hI F tr.1)), .string (RS (ptI P tr.2.1).1), .string (RS (ptI P tr.2.1).2), .string (RS (hI F tr.2.1)), .string (RS (ptI P tr.2.2).1), .string (RS (ptI P tr.2.2).2), .string (RS (hI F tr.2.2))], .agg #[.string (RS a.1), .string (RS a.2)], .agg #[.string (RS b.1), .string (RS b.2)]] w (Ret (fun r _ => r = .int .i64 (sideT P tr a b)) w) :=
 sA0 (ptI P tr.1) (ptI P tr.2.1) (ptI P tr.2.2) a b (RS (hI F tr.1)) (RS (hI F tr.2.1)) (RS (hI F tr.2.2)) w
theorem cok (p : PtQ) (h : SzP 200 p) (w : World) (Z : Good w) : Calls Tryz.prog 32 #[.agg #[.string (RS p.1), .string (RS p.2)]] w (Ret (fun r _ => r = .int .i64 0) w) := by
 have Y := h.1.size (by omega);have X := h.2.size (by omega);have := cPa (RS p.1) (RS p.2) (by omega) (by omega) w Z;rw [h.right (Nat.le_refl _)] at this;exact this
theorem li0 (w : World) (vp vt vf : Value) (P : List PtQ) (T : List Tri) (k : Nat) (F : List Rat) (h : FieldIn w vp vt vf P T k F) (z : Rat) (m : Nat) (hz : Sz m z) (y9 : 6 * k + 3 * m + 6 <= 200) (hg : Good w) :
 Calls Tryz.prog 9 #[.agg #[vp, vt], vf, .string (RS z)] w (Ret (fun r w' => ∃ v, r = .tuple #[v, .int .i64 0] /\ SegV w' w.heap.size v (lLL P T F z)) w) := by
 have HH := Lib.hid h;have yE := h.m.kpos;have zX : Hid (∀ w', FieldIn w' vp vt vf P T k F -> Good w' -> _) := fun w' h hg => fok w' vp vt vf P T k F h z (hz.mono (by omega)) hg
 have zZ : Hid (∀ tr ∈ T, ∀ x ∈ idxOf tr, SzP k (ptI P x) /\ Sz k (hI F x)) := fun tr zl x hx => by
  obtain ⟨h0, h1⟩ := h.m.idx tr zl x hx;obtain ⟨q, rfl⟩ : ∃ q : Nat, x = (q : Int) := ⟨x.toNat, by omega⟩;rw [pIn P q (by omega), he0 F q (by have := h.fl; omega)];exact ⟨h.m.sz _ (List.getElem_mem _), h.fs _ (List.getElem_mem _)⟩
 have yi : Hid (∀ (i : Nat) (hi : i < T.length) (w' : World), FieldIn w' vp vt vf P T k F -> Good w' -> _) := fun i hi w' h' hg' => cc0 w' vp vt vf P T k F h'.p h'.t h'.m.toMIn h'.f h'.fl i i rfl hi (triI T i) (tIn T i hi) hg';have zV : Hid (∀ (i : Nat) (hi : i < T.length) (w' : World), Good w' -> _) := fun i hi w' hg' => pd0 P F (triI T i) z k m yE (by omega) (zZ.out (triI T i) (by rw [tIn T i hi]; exact List.getElem_mem hi)) hz w' hg'
 have yy : Hid (∀ (i : Nat) (hi : i < T.length) (w' : World), FieldIn w' vp vt vf P T k F -> Good w' -> _) := fun i hi w' h' hg' => nay w' vp vt P T k h'.p h'.t h'.m i hi (triI T i) (tIn T i hi) hg';have yz : Hid (∀ (i : Nat) (hi : i < T.length), ∀ c ∈ partT P F z (triI T i), SzP 200 c.1) := fun i hi c hc => by
  have s := zZ.out (triI T i) (by rw [tIn T i hi]; exact List.getElem_mem hi);have := cLS (c0 := corP P F (triI T i).1) (c1 := corP P F (triI T i).2.1) (c2 := corP P F (triI T i).2.2) (s _ (by simp [idxOf])) (s _ (by simp [idxOf])) (s _ (by simp [idxOf])) hz c hc;exact ⟨this.1.mono y9, this.2.mono y9⟩
 obtain ⟨pp, cp, pt, ct, pf, cf, rfl, rfl, rfl⟩ := h.open;obtain ⟨i0, yp, zO, zP, zQ⟩ := info_parts ist;have yR : T.length <= 800 := h.m.tlen;obtain ⟨sz, yb⟩ : ∃ s, s = RS z := ⟨_, rfl⟩;rw [<- yb] at zX zV ⊢;have yn := Lib.hid yb;clear h hz y9 yb zZ;go_enter Tryz.func9, Tryz.ntmps9;go_wp2_with fail;obtain ⟨W, hW⟩ := zex (w.alloc (.cells #[.slice pp P.length cp, .slice pt T.length ct] 35));have hB : Below w.heap.size w W := by rw [hW]; exact zal _ _
 have b0 : BoxN W w.heap.size 35 [.slice pp P.length cp, .slice pt T.length ct] := by rw [hW]; exact BoxN.new _ _ _ _ rfl
 rw [<- hW];clear hW;refine (zX.out W (HH.out.below hB) (hg.below hB)).mono ?_;rintro e w1 ⟨_, rfl, rfl, y4⟩;have h2 := zbt hB y4;have b1 := b0.below y4 b0.lt;have x1 := b1.cell 1 rfl;clear y4 hB b0 zX;go_wp2_with fail;clear x1;go_loopw [9, 29] (fun t9 t29 wr => ∃ (i n : Nat), t29 = .int .i64 i /\ i <= T.length /\ n <= 6 * i /\ Hid ((levTo P T F z i).length = n) /\ wr.ownsRow w1.heap.size 52 5 t9 n (cGG (levTo P T F z i)) /\ Below w1.heap.size w1 wr) (fun _ t29 _ => T.length - (RowKit.intOf t29).toNat)
 case atStart => exact ⟨0, 0, rfl, Nat.zero_le _, Nat.le_refl _, rfl, World.ownsRow_nil _ _ _ _, Below.refl _ _⟩
 case round =>
  obtain ⟨i, n, rfl, yT, x2, yk, L, g⟩ := hrel;obtain ⟨p9, c9, rfl⟩ := oRs L;obtain ⟨wo, yH⟩ := zex (wr : World);subst yH;rcases Nat.lt_or_ge i T.length with h | h
  ·have hX : Below w.heap.size w wo := zbt h2 g
   obtain ⟨tr, zl⟩ := zex (triI T i);obtain ⟨Z, hn⟩ : ∃ l, l = partT P F z tr := ⟨_, rfl⟩;obtain ⟨N, hN⟩ := zex (Z.length);have zC : Hid (∀ w', Below w.heap.size w w' -> _) := fun w' hb => yi.out i h w' (HH.out.below hb) (hg.below hb);have z2 : Hid (∀ w', Good w' -> _) := fun w' hg' => zV.out i h w' hg';have zE : Hid (∀ w', Below w.heap.size w w' -> _) := fun w' hb => yy.out i h w' (HH.out.below hb) (hg.below hb);have hO : Hid (∀ c ∈ partT P F z (triI T i), SzP 200 c.1) := yz.out i h;have zW : Hid (levTo P T F z (i + 1) = levTo P T F z i ++ segTo P T F z i (triI T i) (partT P F z (triI T i)) (partT P F z (triI T i)).length) := rfl;have yN : N <= 6 := by rw [hN, hn]; exact cLl _ _ _ _
   have yl : Hid (∀ (a b : PtQ) (w : World), _) := fun a b w => s3a P F (triI T i) a b w;rw [<- zl] at zC z2 zE hO zW yl;rw [<- hn] at z2 hO zW;have yP := Lib.hid zl;have yO := Lib.hid hn;have zY := Lib.hid hN;generalize RS (ptI P tr.1).1 = q0 at *;generalize RS (ptI P tr.1).2 = q1 at *;generalize RS (hI F tr.1) = q2 at *;generalize RS (ptI P tr.2.1).1 = q3 at *;generalize RS (ptI P tr.2.1).2 = q4 at *;generalize RS (hI F tr.2.1) = q5 at *;generalize RS (ptI P tr.2.2).1 = q6 at *;generalize RS (ptI P tr.2.2).2 = q7 at *;generalize RS (hI F tr.2.2) = q8 at *;have y2 := b1.below g b1.lt;have x0 := y2.cell 0 rfl;have x1 := y2.cell 1 rfl;have yS : (i : Int) < (T.length : Int) := by omega
   have x5 := g.size;clear zl hn hN;go_wp2_with fail;refine (zC.out wo hX).mono ?_;rintro e w2 ⟨_, rfl, rfl, y5⟩;have zI : Below w1.heap.size w1 w2 := zbt g y5;have zg := WRA L y5;clear x0 x1 y2 L y5;go_upto_region 9 with fail;obtain ⟨W3, zq⟩ : ∃ X, X = w2.alloc (.cells #[.string q0, .string q1, .string q2, .string q3, .string q4, .string q5, .string q6, .string q7, .string q8] 90) := ⟨_, rfl⟩;have y6 : Below w2.heap.size w2 W3 := by rw [zq]; exact zal _ _
   have hq : BoxN W3 w2.heap.size 90 [.string q0, .string q1, .string q2, .string q3, .string q4, .string q5, .string q6, .string q7, .string q8] := by rw [zq]; exact BoxN.new _ _ _ _ rfl
   rw [<- zq];clear zq;have zd : Below w1.heap.size w1 W3 := zbt zI y6;have zh := WRA zg y6;have zG : Below w.heap.size w W3 := zbt h2 zd;have hU : W3.rangeAt w2.heap.size 0 [.string q0, .string q1, .string q2, .string q3, .string q4, .string q5, .string q6, .string q7, .string q8] := fun j v hv => by rw [Nat.zero_add]; exact hq.cell j hv
   clear y6 zg zI g hX;go_wp2_with (refine wpList_load_mid (by rfl) 90 (.tmp 11) (by rfl) w2.heap.size 0 (by rfl) [.string q0, .string q1, .string q2, .string q3, .string q4, .string q5, .string q6, .string q7, .string q8] _ hU Tryz.underlying90 (by rfl) (by kernel_rfl) ?_);refine (z2.out W3 (hg.below zG)).mono ?_;rintro e w4 ⟨yJ, rfl, hZ, zu⟩;have zJ : Below w1.heap.size w1 w4 := zbt zd zu;have zi := WRA zh zu;have zF := hq.below zu hq.lt;have zk : w4.ownsRow W3.heap.size 89 3 yJ N (cCC Z) := by rw [zY.out]; exact hZ.1
   obtain ⟨yI, yA, rfl⟩ := oRs zk;clear hU hq zh zd zu hZ zG;go_wp2_with fail;go_loopw [9, 41] (fun t9 t41 wr => ∃ (j C : Nat), t41 = .int .i64 j /\ j <= N /\ C <= n + j /\ Hid ((levTo P T F z i ++ segTo P T F z i tr Z j).length = C) /\ wr.ownsRow w1.heap.size 52 5 t9 C (cGG (levTo P T F z i ++ segTo P T F z i tr Z j)) /\ wr.ownsRow W3.heap.size 89 3 (.slice yI N yA) N (cCC Z) /\ BoxN wr w2.heap.size 90 [.string q0, .string q1, .string q2, .string q3, .string q4, .string q5, .string q6, .string q7, .string q8] /\ Below w1.heap.size w1 wr) (fun _ t41 _ => N - (RowKit.intOf t41).toNat)
   case atStart => exact ⟨0, n, rfl, Nat.zero_le _, Nat.le_refl _, by unfold Hid; rw [show segTo P T F z i tr Z 0 = [] from rfl, List.append_nil]; exact yk.out, by rw [show segTo P T F z i tr Z 0 = [] from rfl, List.append_nil]; exact zi, zk, zF, zJ⟩
   case round =>
    clear zi zk zF zJ;obtain ⟨j, C, rfl, yU, x3, y, L, hZ, hq, g⟩ := hrel;obtain ⟨zB, zo, rfl⟩ := oRs L;have hX : Below w.heap.size w wr := zbt h2 g;rcases Nat.lt_or_ge j N with hj | hj
    ·have h3 : Hid (levTo P T F z i ++ segTo P T F z i tr Z (j + 1) = levTo P T F z i ++ segTo P T F z i tr Z j ++ segA P T F z i tr Z j) := by unfold Hid; rw [show segTo P T F z i tr Z (j + 1) = segTo P T F z i tr Z j ++ segA P T F z i tr Z j from rfl, List.append_assoc]
     have z9 : N = Z.length := zY.out;obtain ⟨yB, yL, yu, hk⟩ := ron (by rw [<- z9]; exact hZ) (by intro e; rw [e] at z9; simp at z9; omega);injection yu with hp12 hn12 hc12
     subst hp12;have yC : (j + 1) % N < N := Nat.mod_lt _ (by omega);obtain ⟨jn, ze⟩ := zex ((j + 1) % N);have zN : ((j : Int) + 1).tmod (N : Int) = (jn : Int) := by
      rw [Int.tmod_eq_emod_of_nonneg (by omega), ze];push_cast; rfl
     have ya : ((j : Int) + 1) % (N : Int) = (jn : Int) := by rw [ze]; push_cast; rfl
     rw [<- ze] at yC;have y8 : j < Z.length := by omega
     have hY : jn < Z.length := by omega
     obtain ⟨k0, k1, k2⟩ := hk j y8;obtain ⟨l0, l1, l2⟩ := hk jn hY;obtain ⟨A, hA⟩ := zex (Z[j]);obtain ⟨B, zp⟩ := zex (Z[jn]);rw [<- hA] at k0 k1 k2;rw [<- zp] at l0 l1 l2;have hV : Hid (segA P T F z i tr Z j = if keepB P T F z tr A B then [((i : Int), A.1, B.1)] else []) := by
      unfold Hid segA;rw [<- z9, <- ze, cIn _ _ y8, cIn _ _ hY, <- hA, <- zp]
     have zT := Lib.hid fun w hg => cok A.1 (hO.out A (by rw [hA]; exact List.getElem_mem _)) w hg
     have zU := Lib.hid fun w hg => cok B.1 (hO.out B (by rw [zp]; exact List.getElem_mem _)) w hg
     have hP : Hid (∀ (w : World), _) := fun w => yl.out A.1 B.1 w;have yK := Lib.hid zN;have yQ : (0 : Int) < (N : Int) := by omega
     have yV : (j : Int) < (N : Int) := by omega
     have yq : (jn : Int) < (N : Int) := by omega
     clear hk hA zp y8 hY hc12 ze z9 hn12;have yv : yB < wr.heap.size := World.block_lt_of_cell? wr _ k0;obtain ⟨ax, zs⟩ : ∃ s, s = RS A.1.1 := ⟨_, rfl⟩;obtain ⟨ay, zt⟩ : ∃ s, s = RS A.1.2 := ⟨_, rfl⟩;obtain ⟨bx, zx⟩ : ∃ s, s = RS B.1.1 := ⟨_, rfl⟩;obtain ⟨K, zy⟩ : ∃ s, s = RS B.1.2 := ⟨_, rfl⟩;obtain ⟨az, y3⟩ : ∃ s, s = RS A.2 := ⟨_, rfl⟩;obtain ⟨bz, y7⟩ : ∃ s, s = RS B.2 := ⟨_, rfl⟩;rw [<- zs, <- zt] at zT hP;rw [<- zx, <- zy] at zU hP;rw [<- zs] at k0;rw [<- zt] at k1;rw [<- y3] at k2;rw [<- zx] at l0;rw [<- zy] at l1;rw [<- y7] at l2;have ym : Hid (RS A.1.1 = ax /\ RS A.1.2 = ay /\ RS B.1.1 = bx /\ RS B.1.2 = K) := ⟨zs.symm, zt.symm, zx.symm, zy.symm⟩;have zn : Hid (az.toList = sz.toList ↔ A.2 = z) := by
      unfold Hid;rw [y3, yn.out];exact ⟨fun h => RtL h, fun h => by rw [h]⟩
     have zS : Hid (bz.toList = sz.toList ↔ B.2 = z) := by
      unfold Hid;rw [y7, yn.out];exact ⟨fun h => RtL h, fun h => by rw [h]⟩
     obtain ⟨ks, zA⟩ : ∃ s, s = sideT P tr A.1 B.1 := ⟨_, rfl⟩;have yY : ks = -1 \/ ks = 0 \/ ks = 1 \/ ks = 2 := by rw [zA]; exact sLc _ _ _ _ _
     rw [<- zA] at hP;have yx := Lib.hid zA;clear zs zt zx zy y3 y7 zA;go_upto_region 14 with fail;obtain ⟨W6, za⟩ : ∃ X, X = (wr.alloc (.cells #[.string ax, .string ay, .string az] 89)).alloc (.cells #[.string bx, .string K, .string bz] 89) := ⟨_, rfl⟩;have zb : Below wr.heap.size wr W6 := by rw [za]; exact zal2 _ _ _
     have h9 : BoxN W6 (wr.heap.size + 1) 89 [.string bx, .string K, .string bz] := by rw [za]; exact BoxN.new _ _ _ _ (by simp)
     have h6 : BoxN W6 wr.heap.size 89 [.string ax, .string ay, .string az] := by
      rw [za];have h1 := (BoxN.new wr #[.string ax, .string ay, .string az] 89 _ rfl);exact h1.below (zal _ _) h1.lt
     rw [<- za];clear za k0 k1 k2 l0 l1 l2 zN ya yq yv;have hl := WRA L zb;have hS := WRA hZ zb;have h4 := hq.below zb hq.lt;have hy := zbt g zb;have yo := zbt h2 hy;clear L hZ hq g hX zb;have a2 := h6.cell 2 rfl;have c2 := h9.cell 2 rfl;by_cases hAz : A.2 = z;rotate_left
     ·have ht := (not_congr zn.out).2 hAz
      have hG : Hid (keepB P T F z tr A B = false) := by unfold Hid keepB; rw [decide_eq_false hAz]; rfl
      clear hAz;have HE : Hid (levTo P T F z i ++ segTo P T F z i tr Z (j + 1) = levTo P T F z i ++ segTo P T F z i tr Z j) := by unfold Hid; rw [h3.out, hV.out, hG.out, if_neg (by simp), List.append_nil]
      have S : Hid ((levTo P T F z i ++ segTo P T F z i tr Z (j + 1)).length = C) := by unfold Hid; rw [HE.out]; exact y.out
      have hH : Hid (W6.ownsRow w1.heap.size 52 5 (.slice zB C zo) C (cGG (levTo P T F z i ++ segTo P T F z i tr Z (j + 1)))) := by unfold Hid; rw [HE.out]; exact hl
      go_wp2_with fail;go_roundw
      case rel => exact ⟨j + 1, C, by go_num, hj, by omega, S, hH.out, hS, h4, hy⟩
      case measure => simp [RowKit.intOf]; omega
     by_cases hBz : B.2 = z;rotate_left
     ·have ht := (not_congr zS.out).2 hBz
      have x4 : (bz.toList == sz.toList) = false := by simpa using ht
      have yt := zn.out.2 hAz;have hG : Hid (keepB P T F z tr A B = false) := by unfold Hid keepB; rw [decide_eq_false hBz, Bool.and_false]; rfl
      clear hAz hBz;have HE : Hid (levTo P T F z i ++ segTo P T F z i tr Z (j + 1) = levTo P T F z i ++ segTo P T F z i tr Z j) := by unfold Hid; rw [h3.out, hV.out, hG.out, if_neg (by simp), List.append_nil]
      have S : Hid ((levTo P T F z i ++ segTo P T F z i tr Z (j + 1)).length = C) := by unfold Hid; rw [HE.out]; exact y.out
      have hH : Hid (W6.ownsRow w1.heap.size 52 5 (.slice zB C zo) C (cGG (levTo P T F z i ++ segTo P T F z i tr Z (j + 1)))) := by unfold Hid; rw [HE.out]; exact hl
      go_wp2_with fail;go_roundw
      case rel => exact ⟨j + 1, C, by go_num, hj, by omega, S, hH.out, hS, h4, hy⟩
      case measure => simp [RowKit.intOf]; omega
     have yG := zn.out.2 hAz;have yt := zS.out.2 hBz;have hG : Hid (keepB P T F z tr A B = (decide (ks < 0) || (decide (0 <= nbT T tr ks) && (partT P F z (triI T (nbT T tr ks))).isEmpty))) := by unfold Hid keepB; rw [decide_eq_true hAz, decide_eq_true hBz, yx.out]; rfl
     clear hAz hBz zn zS;have hF : W6.rangeAt w2.heap.size 0 [.string q0, .string q1, .string q2, .string q3, .string q4, .string q5, .string q6, .string q7, .string q8] := fun j v hv => by rw [Nat.zero_add]; exact h4.cell j hv
     have y0 := h6.cell 0 rfl;have y1 := h6.cell 1 rfl;have z0 := h9.cell 0 rfl;have z1 := h9.cell 1 rfl;go_upto_region 15 with fail;clear yG yt a2 c2;go_wp2_with (refine wpList_load_mid (by rfl) 90 (.tmp 11) (by rfl) w2.heap.size 0 (by rfl) [.string q0, .string q1, .string q2, .string q3, .string q4, .string q5, .string q6, .string q7, .string q8] _ hF Tryz.underlying90 (by rfl) (by kernel_rfl) ?_);refine (hP.out W6).mono ?_;rintro e w7 ⟨_, rfl, rfl, hJ⟩;have hm := WRA hl hJ;have hT := WRA hS hJ;have h5 := h4.below hJ h4.lt;have E := h6.below hJ h6.lt;have D := h9.below hJ h9.lt;have f := zbt hy hJ;clear hl hS h4 h6 h9 hy yo hJ hF y0 y1 z0 z1;by_cases hk0 : ks < 0
     ·have yj : Hid (keepB P T F z tr A B = true) := by unfold Hid; rw [hG.out, decide_eq_true hk0]; rfl
      have yW : ¬ 0 <= ks := by omega
      have HE : Hid (levTo P T F z i ++ segTo P T F z i tr Z (j + 1) = levTo P T F z i ++ segTo P T F z i tr Z j ++ [((i : Int), A.1, B.1)]) := by unfold Hid; rw [h3.out, hV.out, yj.out, if_pos rfl]
      have S : Hid ((levTo P T F z i ++ segTo P T F z i tr Z (j + 1)).length = C + 1) := by unfold Hid; rw [HE.out, List.length_append, y.out]; rfl
      have zR : Hid (cGG (levTo P T F z i ++ segTo P T F z i tr Z (j + 1)) = cGG (levTo P T F z i ++ segTo P T F z i tr Z j) ++ [.int .i64 (i : Int), .string ax, .string ay, .string bx, .string K]) := by
       obtain ⟨e1, e2, e3, e4⟩ := ym.out;unfold Hid;rw [HE.out, cGs, e1, e2, e3, e4]
      have o := zbt h2 f;have y0 := E.cell 0 rfl;have y1 := E.cell 1 rfl;clear HE;go_wp2_with fail;refine (zT.out w7 (hg.below o)).mono ?_;rintro e wA ⟨_, rfl, rfl, hh⟩;have p := D.below hh D.lt;have z0 := p.cell 0 rfl;have z1 := p.cell 1 rfl;have hw := zbt o hh;clear y0 y1;go_wp2_with fail;refine (zU.out wA (hg.below hw)).mono ?_;rintro e wB ⟨_, rfl, rfl, zc⟩;have V := zbt hh zc;have Q := WRA hm V;have hD := WRA hT V;have hr := h5.below V h5.lt;have hs := E.below V E.lt;have hu := D.below V D.lt;have hC := zbt f V;have yd := hC.size;have zf := hr.lt;clear hh zc V o hw z0 z1 p hm hT h5 E D f;have y0 := hs.cell 0 rfl;have y1 := hs.cell 1 rfl;have z0 := hu.cell 0 rfl;have z1 := hu.cell 1 rfl
      go_wp2_with (at_builtin; refine wpList_append_own _ rfl _ _ 42 rfl w1.heap.size 52 i0 (.agg #[.int .i64 0, .string ⟨#[]⟩, .string ⟨#[]⟩, .string ⟨#[]⟩, .string ⟨#[]⟩]) 5 72 Tryz.underlying42 yp zO zP zQ rfl (by decide) _ _ _ rfl (Q.alloc _) ⟨wB.heap.size, 0, none⟩ 1 1 [.int .i64 (i : Int), .string ax, .string ay, .string bx, .string K] rfl rfl (cfe _ _ _ _ _ _ _) (foe _ _ _ _ _) (by unfold maxLen; omega) (by omega) (by simp; omega) ?_
                   intro v9 w9 U Y _;have yw := Y.size;have M : Below w1.heap.size w1 w9 := (hC.alloc yd _).grown Y (by simp; omega) (fun j hj => by have := (Q.lt j hj).1; omega);have H := World.ownsRow.kept (hD.alloc (.cells #[.int .i64 (i : Int), .string ax, .string ay, .string bx, .string K] 52)) Y (oat (hD.alloc _) (Q.alloc (.cells #[.int .i64 (i : Int), .string ax, .string ay, .string bx, .string K] 52)) (by decide));have R := hr.below ((Below.refl _ _).alloc (Nat.le_refl _) (.cells #[.int .i64 (i : Int), .string ax, .string ay, .string bx, .string K] 52)) zf;have O := (Y.block _ R.lt (obN (Q.alloc (.cells #[.int .i64 (i : Int), .string ax, .string ay, .string bx, .string K] 52)) R (by decide))).trans R;clear Y R)
      rw [<- zR.out] at U;go_wp2_with fail;go_roundw
      case rel => exact ⟨j + 1, C + 1, by go_num, hj, by omega, S, U, H, O, M⟩
      case measure => simp [RowKit.intOf]; omega
     obtain ⟨kk, yD⟩ : ∃ kk : Nat, ks = (kk : Int) := ⟨ks.toNat, by omega⟩;subst yD;have yX : (kk : Int) < 3 := by omega
     have ho : Hid (keepB P T F z tr A B = (decide (0 <= nbT T tr kk) && (partT P F z (triI T (nbT T tr kk))).isEmpty)) := by unfold Hid; rw [hG.out, decide_eq_false hk0]; rfl
     clear hk0 hG;have zH := zbt h2 f;have m7 := b1.below f b1.lt;have x0 := m7.cell 0 rfl;have x1 := m7.cell 1 rfl;go_wp2_with fail;refine (zE.out w7 zH).mono ?_;rintro e w8 ⟨_, rfl, rfl, hK⟩;have zj := WRA hm hK;have zM := WRA hT hK;have z5 := h5.below hK h5.lt;have z6 := E.below hK E.lt;have z7 := D.below hK D.lt;have zK := zbt f hK;clear hm hT h5 E D f zH hK x0 x1 m7;go_upto_region 20 with fail;have nTl : ∀ k, 0 <= nbT T tr k -> ∃ j : Nat, nbT T tr k = (j : Int) /\ j < T.length := fun k h => nIl h;obtain ⟨nb, he⟩ : ∃ x, x = nbT T tr kk := ⟨_, rfl⟩;obtain ⟨W9, zr⟩ : ∃ X, X = w8.alloc (.cells #[.int .i64 (nbI T (sideK tr 0)), .int .i64 (nbI T (sideK tr 1)), .int .i64 (nbI T (sideK tr 2))] 95) := ⟨_, rfl⟩;have hL : Below w8.heap.size w8 W9 := by rw [zr]; exact zal _ _
     have z8 : BoxN W9 w8.heap.size 95 [.int .i64 (nbI T (sideK tr 0)), .int .i64 (nbI T (sideK tr 1)), .int .i64 (nbI T (sideK tr 2))] := by rw [zr]; exact BoxN.new _ _ _ _ rfl
     rw [<- zr];have kc : W9.cell? ⟨w8.heap.size, kk, none⟩ = some (.int .i64 nb) := by
      rw [he];obtain rfl | rfl | rfl : kk = 0 \/ kk = 1 \/ kk = 2 := by omega
      ·exact z8.cell 0 rfl
      ·exact z8.cell 1 rfl
      ·exact z8.cell 2 rfl
     have U := WRA zj hL;have H := WRA zM hL;have O := z5.below hL z5.lt;have h7 := z6.below hL z6.lt;have ha := z7.below hL z7.lt;have M := zbt zK hL;have yM := z8.lt;rw [<- he] at ho;clear zr z8 hL zj zM z5 z6 z7 zK;by_cases hnb : nb < 0
     ·have hp : Hid (keepB P T F z tr A B = false) := by unfold Hid; rw [ho.out, decide_eq_false (by omega)]; rfl
      have yr : decide (nb < 0) = true := decide_eq_true hnb;clear ho he nTl;go_quiet (fail);obtain ⟨wC, yc⟩ : ∃ X, X = W9.drewN nq := ⟨_, rfl⟩;have zv : Below W9.heap.size W9 wC := by rw [yc]; exact bdN W9 nq
      rw [<- yc];clear yc kc;have G := WRA U zv;have hf := WRA H zv;have t := O.below zv O.lt;have d := zbt M zv;have HE : Hid (levTo P T F z i ++ segTo P T F z i tr Z (j + 1) = levTo P T F z i ++ segTo P T F z i tr Z j) := by unfold Hid; rw [h3.out, hV.out, hp.out, if_neg (by simp), List.append_nil]
      have S : Hid ((levTo P T F z i ++ segTo P T F z i tr Z (j + 1)).length = C) := by unfold Hid; rw [HE.out]; exact y.out
      have hH : Hid (wC.ownsRow w1.heap.size 52 5 (.slice zB C zo) C (cGG (levTo P T F z i ++ segTo P T F z i tr Z (j + 1)))) := by unfold Hid; rw [HE.out]; exact G
      go_wp2_with fail;go_roundw
      case rel => exact ⟨j + 1, C, by go_num, hj, by omega, S, hH.out, hf, t, d⟩
      case measure => simp [RowKit.intOf]; omega
     obtain ⟨jb, hY, zL⟩ := nTl kk (by rw [<- he]; omega);rw [<- he] at hY;subst hY;have hp : Hid (keepB P T F z tr A B = (partT P F z (triI T jb)).isEmpty) := by unfold Hid; rw [ho.out, decide_eq_true (by omega)]; rfl
     have zD : Hid (∀ w', Below w.heap.size w w' -> _) := fun w' hb => yi.out jb zL w' (HH.out.below hb) (hg.below hb);have z3 : Hid (∀ w', Good w' -> _) := fun w' hg' => zV.out jb zL w' hg';have yr : decide ((jb : Int) < 0) = false := decide_eq_false hnb;obtain ⟨pN, ys⟩ : ∃ l, l = partT P F z (triI T jb) := ⟨_, rfl⟩;rw [<- ys] at hp z3;generalize RS (ptI P (triI T jb).1).1 = r0 at *;generalize RS (ptI P (triI T jb).1).2 = r1 at *;generalize RS (hI F (triI T jb).1) = r2 at *;generalize RS (ptI P (triI T jb).2.1).1 = r3 at *;generalize RS (ptI P (triI T jb).2.1).2 = r4 at *;generalize RS (hI F (triI T jb).2.1) = r5 at *;generalize RS (ptI P (triI T jb).2.2).1 = r6 at *;generalize RS (ptI P (triI T jb).2.2).2 = r7 at *;generalize RS (hI F (triI T jb).2.2) = r8 at *;have m9 := b1.below M b1.lt;have x0 := m9.cell 0 rfl;have x1 := m9.cell 1 rfl;have hR := zbt h2 M;have yZ := m9.lt;have zz : Good W9.drew := (hg.below hR).drewN 1;have zw : Below w.heap.size w W9.drew := hR.trans ((bdN W9 1).mono hR.size);clear ho he nTl ys hnb m9 hR;by_cases hpn : pN = []
     ·have z4 : Hid (keepB P T F z tr A B = true) := by unfold Hid; rw [hp.out, hpn]; rfl
      go_region_held3 (fun w' => w'.cell? ⟨w8.heap.size, kk, none⟩ = some (.int .i64 (jb : Int)) /\ w'.cell? ⟨w.heap.size, 0, none⟩ = some (.slice pp P.length cp) /\ w'.cell? ⟨w.heap.size, 1, none⟩ = some (.slice pt T.length ct))
       (first | exact ⟨kc, x0, x1⟩ | exact ⟨p_1_0, p_1_1, p_1_2⟩ | exact ⟨p_2_0, p_2_1, p_2_2⟩)
       (first
       | (go_at_call 29; refine (z3.out _ hM).mono ?_; rintro e zm ⟨vn, rfl, hE, I⟩
          have p_2_0 := zct I p_1_0;have p_2_1 := zct I p_1_1;have p_2_2 := zct I p_1_2;have yg := I.size;have ye := hM.below I;obtain rfl := hE.2 hpn)
       | (go_at_call 28; refine (zD.out _ zw).mono ?_; rintro e yh ⟨_, rfl, rfl, J⟩
          have p_1_0 := zct J kc;have p_1_1 := zct J x0;have p_1_2 := zct J x1;have yf : W9.heap.size <= yh.heap.size := J.size;have hM := zz.below J))
      have pB : Below W9.heap.size W9 zm := zbt (zbt (bdN W9 1) J) I;clear hE;have G := WRA U pB;have hf := WRA H pB;have t := O.below pB O.lt;have h8 := h7.below pB h7.lt;have hd := ha.below pB ha.lt;have d := zbt M pB;clear pB J I yf yg hM ye p_1_0 p_1_1 p_1_2 p_2_0 p_2_1 p_2_2 kc x0 x1 U H O h7 ha M zz zw hpn;have HE : Hid (levTo P T F z i ++ segTo P T F z i tr Z (j + 1) = levTo P T F z i ++ segTo P T F z i tr Z j ++ [((i : Int), A.1, B.1)]) := by unfold Hid; rw [h3.out, hV.out, z4.out, if_pos rfl]
      have S : Hid ((levTo P T F z i ++ segTo P T F z i tr Z (j + 1)).length = C + 1) := by unfold Hid; rw [HE.out, List.length_append, y.out]; rfl
      have zR : Hid (cGG (levTo P T F z i ++ segTo P T F z i tr Z (j + 1)) = cGG (levTo P T F z i ++ segTo P T F z i tr Z j) ++ [.int .i64 (i : Int), .string ax, .string ay, .string bx, .string K]) := by
       obtain ⟨e1, e2, e3, e4⟩ := ym.out;unfold Hid;rw [HE.out, cGs, e1, e2, e3, e4]
      have o := zbt h2 d;have y0 := h8.cell 0 rfl;have y1 := h8.cell 1 rfl;clear HE;go_wp2_with fail;refine (zT.out zm (hg.below o)).mono ?_;rintro e wA ⟨_, rfl, rfl, hh⟩;have p := hd.below hh hd.lt;have z0 := p.cell 0 rfl;have z1 := p.cell 1 rfl;have hw := zbt o hh;clear y0 y1;go_wp2_with fail;refine (zU.out wA (hg.below hw)).mono ?_;rintro e wB ⟨_, rfl, rfl, zc⟩;have V := zbt hh zc;have Q := WRA G V;have hD := WRA hf V;have hr := t.below V t.lt;have hs := h8.below V h8.lt;have hu := hd.below V hd.lt;have hC := zbt d V;have yd := hC.size;have zf := hr.lt;clear hh zc V o hw z0 z1 p G hf t h8 hd d;have y0 := hs.cell 0 rfl;have y1 := hs.cell 1 rfl;have z0 := hu.cell 0 rfl;have z1 := hu.cell 1 rfl
      go_wp2_with (at_builtin; refine wpList_append_own _ rfl _ _ 42 rfl w1.heap.size 52 i0 (.agg #[.int .i64 0, .string ⟨#[]⟩, .string ⟨#[]⟩, .string ⟨#[]⟩, .string ⟨#[]⟩]) 5 72 Tryz.underlying42 yp zO zP zQ rfl (by decide) _ _ _ rfl (Q.alloc _) ⟨wB.heap.size, 0, none⟩ 1 1 [.int .i64 (i : Int), .string ax, .string ay, .string bx, .string K] rfl rfl (cfe _ _ _ _ _ _ _) (foe _ _ _ _ _) (by unfold maxLen; omega) (by omega) (by simp; omega) ?_
                   intro v9 w9 U Y _;have yw := Y.size;have M : Below w1.heap.size w1 w9 := (hC.alloc yd _).grown Y (by simp; omega) (fun j hj => by have := (Q.lt j hj).1; omega);have H := World.ownsRow.kept (hD.alloc (.cells #[.int .i64 (i : Int), .string ax, .string ay, .string bx, .string K] 52)) Y (oat (hD.alloc _) (Q.alloc (.cells #[.int .i64 (i : Int), .string ax, .string ay, .string bx, .string K] 52)) (by decide));have R := hr.below ((Below.refl _ _).alloc (Nat.le_refl _) (.cells #[.int .i64 (i : Int), .string ax, .string ay, .string bx, .string K] 52)) zf;have O := (Y.block _ R.lt (obN (Q.alloc (.cells #[.int .i64 (i : Int), .string ax, .string ay, .string bx, .string K] 52)) R (by decide))).trans R;clear Y R)
      rw [<- zR.out] at U;go_wp2_with fail;go_roundw
      case rel => exact ⟨j + 1, C + 1, by go_num, hj, by omega, S, U, H, O, M⟩
      case measure => simp [RowKit.intOf]; omega
     ·have z4 : Hid (keepB P T F z tr A B = false) := by unfold Hid; rw [hp.out]; cases pN with | nil => exact absurd rfl hpn | cons a l => rfl
      go_region_held3 (fun w' => w'.cell? ⟨w8.heap.size, kk, none⟩ = some (.int .i64 (jb : Int)) /\ w'.cell? ⟨w.heap.size, 0, none⟩ = some (.slice pp P.length cp) /\ w'.cell? ⟨w.heap.size, 1, none⟩ = some (.slice pt T.length ct))
       (first | exact ⟨kc, x0, x1⟩ | exact ⟨p_1_0, p_1_1, p_1_2⟩ | exact ⟨p_2_0, p_2_1, p_2_2⟩)
       (first
       | (go_at_call 29; refine (z3.out _ hM).mono ?_; rintro e zm ⟨vn, rfl, hE, I⟩
          have p_2_0 := zct I p_1_0;have p_2_1 := zct I p_1_1;have p_2_2 := zct I p_1_2;have yg := I.size;have ye := hM.below I;obtain ⟨gn, cn, rfl, -⟩ := ron hE.1 hpn)
       | (go_at_call 28; refine (zD.out _ zw).mono ?_; rintro e yh ⟨_, rfl, rfl, J⟩
          have p_1_0 := zct J kc;have p_1_1 := zct J x0;have p_1_2 := zct J x1;have yf : W9.heap.size <= yh.heap.size := J.size;have hM := zz.below J))
      have pB : Below W9.heap.size W9 zm := zbt (zbt (bdN W9 1) J) I;clear hE;have G := WRA U pB;have hf := WRA H pB;have t := O.below pB O.lt;have h8 := h7.below pB h7.lt;have hd := ha.below pB ha.lt;have d := zbt M pB;clear pB J I yf yg hM ye p_1_0 p_1_1 p_1_2 p_2_0 p_2_1 p_2_2 kc x0 x1 U H O h7 ha M zz zw hpn;have HE : Hid (levTo P T F z i ++ segTo P T F z i tr Z (j + 1) = levTo P T F z i ++ segTo P T F z i tr Z j) := by unfold Hid; rw [h3.out, hV.out, z4.out, if_neg (by simp), List.append_nil]
      have S : Hid ((levTo P T F z i ++ segTo P T F z i tr Z (j + 1)).length = C) := by unfold Hid; rw [HE.out]; exact y.out
      have hH : Hid (zm.ownsRow w1.heap.size 52 5 (.slice zB C zo) C (cGG (levTo P T F z i ++ segTo P T F z i tr Z (j + 1)))) := by unfold Hid; rw [HE.out]; exact G
      go_wp2_with fail;go_roundw
      case rel => exact ⟨j + 1, C, by go_num, hj, by omega, S, hH.out, hf, t, d⟩
      case measure => simp [RowKit.intOf]; omega
    ·obtain rfl : j = N := by omega
     have HF : Hid (levTo P T F z (i + 1) = levTo P T F z i ++ segTo P T F z i tr Z j) := by unfold Hid; rw [zW.out, <- zY.out]
     have S : Hid ((levTo P T F z (i + 1)).length = C) := by unfold Hid; rw [HF.out]; exact y.out
     rw [<- HF.out] at L;go_wp2_with fail;go_roundw
     case rel => exact ⟨i + 1, C, by go_num, h, by omega, S, L, g⟩
     case measure => simp [RowKit.intOf]; omega
  ·obtain rfl : i = T.length := by omega
   have hX : Below w.heap.size w wo := zbt h2 g;have yF : SegV wo w.heap.size (.slice p9 n c9) (lLL P T F z) := by
    unfold SegV lLL;rw [yk.out];exact oRb L h2.size
   go_wp2_with fail;go_ret2;exact ⟨_, rfl, ⟨_, rfl, yF⟩, hX⟩
theorem Rt1 : RS (1 / 3) = ⟨#[49, 47, 51]⟩ := by decide +kernel
theorem Rh1 : RS (1 / 2) = ⟨#[49, 47, 50]⟩ := by decide +kernel
structure CorB (w : World) (b : Nat) (c : Cor) : Prop where
 x : w.cell? ⟨b, 0, none⟩ = some (.string (RS c.1.1))
 y : w.cell? ⟨b, 1, none⟩ = some (.string (RS c.1.2))
 z : w.cell? ⟨b, 2, none⟩ = some (.string (RS c.2))
theorem CorB.ofBox {w : World} {b ty : Nat} {c : Cor} (h : BoxN w b ty [.string (RS c.1.1), .string (RS c.1.2), .string (RS c.2)]) : CorB w b c := ⟨h.cell 0 rfl, h.cell 1 rfl, h.cell 2 rfl⟩
theorem CorB.new (w : World) (c : Cor) (Z b : Nat) (Y : w.heap.size = b) : CorB (w.alloc (.cells #[.string (RS c.1.1), .string (RS c.1.2), .string (RS c.2)] Z)) b c := .ofBox (BoxN.new w _ Z b Y)
theorem CorB.alloc {w : World} {b : Nat} {c : Cor} (h : CorB w b c) (o : Obj) : CorB (w.alloc o) b c := ⟨cal _ h.x, cal _ h.y, cal _ h.z⟩
theorem CorB.drew {w : World} {b : Nat} {c : Cor} (h : CorB w b c) : CorB w.drew b c := ⟨h.x, h.y, h.z⟩
theorem fIS {l : List Cor} {z : Rat} {k : Nat} (Y : 0 < k) (U : ∀ c ∈ l, SzP k c.1 /\ Sz k c.2) (S : Sz k z) (n : Nat) : Sz ((14 * k + 14) * n + 1) (fanI l z n) := by
 have Z : ∀ i, SzP k (corI l i).1 /\ Sz k (corI l i).2 := fun i => by
  unfold corI;rcases Nat.lt_or_ge i l.length with h | h
  ·rw [List.getElem?_eq_getElem h]; exact U _ (List.getElem_mem h)
  ·rw [List.getElem?_eq_none h]; exact ⟨⟨Sz.zero _ Y, Sz.zero _ Y⟩, Sz.zero _ Y⟩
 induction n with
 | zero => exact Sz.zero 1 (by omega)
 | succ n ih =>
   have a := (aQS (Z 0).1 (Z (n + 1)).1 (Z (n + 2)).1);have X : Sz 1 (1 / 2 : Rat) := ⟨by decide +kernel, by decide +kernel⟩;have V : Sz 1 (1 / 3 : Rat) := ⟨by decide +kernel, by decide +kernel⟩;have m := (((((Z 0).2.add (Z (n + 1)).2).add (Z (n + 2)).2).mul V).sub S);exact (ih.add ((a.mul X).mul m)).mono (by rw [Nat.mul_add]; omega)
theorem ig0 (w : World) (v : Value) (l : List Cor) (z : Rat) (k : Nat) (hk : 0 < k) (zD : k <= 200) (zz : l.length <= 6) (hl : ∀ c ∈ l, SzP k c.1 /\ Sz k c.2) (hz : Sz k z) (hv : RdK w v l) (Q : Good w) :
 Calls Tryz.prog 101 #[v, .string (RS z)] w (Ret (fun r _ => r = .string (RS (integ l z))) w) := by
 have HC : Hid (∀ i, SzP k (corI l i).1 /\ Sz k (corI l i).2) := fun i => by
  unfold corI;rcases Nat.lt_or_ge i l.length with h | h
  ·rw [List.getElem?_eq_getElem h]; exact hl _ (List.getElem_mem h)
  ·rw [List.getElem?_eq_none h]; exact ⟨⟨Sz.zero _ hk, Sz.zero _ hk⟩, Sz.zero _ hk⟩
 have zi := Lib.hid (fIS hk hl hz);have HZ := Lib.hid hz;have h2 : Sz 1 (1 / 2 : Rat) := ⟨by decide +kernel, by decide +kernel⟩;have h3 : Sz 1 (1 / 3 : Rat) := ⟨by decide +kernel, by decide +kernel⟩;have hK := Lib.hid h2;have hL := Lib.hid h3;obtain ⟨p, cp, rfl, -, -, hw⟩ := hv.open;have ha : Hid (∀ i : Nat, i < l.length -> ∃ b off, p = some ⟨b, off, none⟩ /\ b < w.heap.size /\ w.cell? ⟨b, off + i * 3, none⟩ = some (.string (RS (corI l i).1.1)) /\ w.cell? ⟨b, off + i * 3 + 1, none⟩ = some (.string (RS (corI l i).1.2)) /\ w.cell? ⟨b, off + i * 3 + 2, none⟩ = some (.string (RS (corI l i).2))) := fun i hi => by
  obtain ⟨b, off, h1, h2, h3⟩ := hw (List.ne_nil_of_length_pos (by omega));rw [cIn l i hi];exact ⟨b, off, h1, h2, h3 i hi⟩
 have zk : fanI l z 0 = 0 := rfl;clear hv hl hz hw h2 h3;go_enter Tryz.func101, Tryz.ntmps101;go_wp2_with fail;go_loopw [5, 6] (fun t5 t6 wr => ∃ n j : Nat, t6 = .int .i64 (j : Int) /\ Hid (j = n + 1) /\ n <= l.length - 2 /\ t5 = .string (RS (fanI l z n)) /\ Below w.heap.size w wr) (fun _ t6 _ => 8 - (RowKit.intOf t6).toNat)
 case atStart => exact ⟨0, 1, rfl, rfl, Nat.zero_le _, by rw [zk, RS_zero], Below.refl _ _⟩
 case round =>
  obtain ⟨n, j1, rfl, HJ, hn, rfl, J⟩ := hrel;have z7 := HJ.out;obtain ⟨j2, hD⟩ : ∃ j, j = n + 2 := ⟨_, rfl⟩;have zJ : IntKind.i64.wrap ((j1 : Int) + 1) = (j2 : Int) := (IntWalk.i64_in _ (by omega)).trans (by omega);rcases Nat.lt_or_ge (n + 2) l.length with h | h
  ·have zI : (j2 : Int) < (l.length : Int) := by omega
   have zA : (j1 : Int) < (l.length : Int) := by omega
   have zE : (0 : Int) < (l.length : Int) := by omega
   have zl : 0 < l.length := by omega
   have zF : ¬ l = [] := List.ne_nil_of_length_pos zl;have zG : ¬ l.length = 0 := by omega
   obtain ⟨H, G, rfl, I, a0, a1, t⟩ := ha.out 0 (by omega);obtain ⟨zB, zK, e1, -, b0, b1, s⟩ := ha.out (n + 1) (by omega);obtain ⟨zC, zL, e2, -, d0, d1, o⟩ := ha.out (n + 2) (by omega);injection e1 with e1
   injection e1 with e1 e1' _
   injection e2 with e2
   injection e2 with e2 e2' _
   subst e1 e1' e2 e2';have K : H < wr.heap.size := Nat.lt_of_lt_of_le I J.size;have x : Hid (fanI l z (n + 1) = fanI l z n + areaQ (corI l 0).1 (corI l (n + 1)).1 (corI l (n + 2)).1 * (1 / 2) * (((corI l 0).2 + (corI l (n + 1)).2 + (corI l (n + 2)).2) * (1 / 3) - z)) := rfl;have zf := zi.out n;have za := HC.out 0;have zb := HC.out (n + 1);have zd := HC.out (n + 2);have x0 := zcq J I a0;have x1 := zcq J I a1;have x2 := zcq J I t;have x3 := zcq J I b0;have x4 := zcq J I b1;have x5 := zcq J I s;have x6 := zcq J I d0;have x7 := zcq J I d1;have x8 := zcq J I o;rw [Nat.zero_mul, Nat.add_zero] at x0 x1 x2;obtain ⟨ca, z4⟩ : ∃ c, c = corI l 0 := ⟨_, rfl⟩;obtain ⟨cb, z5⟩ : ∃ c, c = corI l (n + 1) := ⟨_, rfl⟩;obtain ⟨cd, z6⟩ : ∃ c, c = corI l (n + 2) := ⟨_, rfl⟩;rw [<- z4] at za x x0 x1 x2;rw [<- z5] at zb x x3 x4 x5;rw [<- z6] at zd x x6 x7 x8;rw [<- z7] at x3 x4 x5;rw [<- hD] at x6 x7 x8;have hM := Lib.hid hD;clear z4 z5 z6 a0 a1 t b0 b1 s d0 d1 o;have HS : Hid (∀ w', Below wr.heap.size wr w' -> w'.cell? ⟨H, G, none⟩ = some (.string (RS ca.1.1)) /\ w'.cell? ⟨H, G + 1, none⟩ = some (.string (RS ca.1.2)) /\ w'.cell? ⟨H, G + 2, none⟩ = some (.string (RS ca.2)) /\ w'.cell? ⟨H, G + j1 * 3, none⟩ = some (.string (RS cb.1.1)) /\ w'.cell? ⟨H, G + j1 * 3 + 1, none⟩ = some (.string (RS cb.1.2)) /\ w'.cell? ⟨H, G + j1 * 3 + 2, none⟩ = some (.string (RS cb.2)) /\ w'.cell? ⟨H, G + j2 * 3, none⟩ = some (.string (RS cd.1.1)) /\ w'.cell? ⟨H, G + j2 * 3 + 1, none⟩ = some (.string (RS cd.1.2)) /\ w'.cell? ⟨H, G + j2 * 3 + 2, none⟩ = some (.string (RS cd.2))) := fun w' hb => ⟨(zcq hb K x0 :), (zcq hb K x1 :), (zcq hb K x2 :), (zcq hb K x3 :), (zcq hb K x4 :), (zcq hb K x5 :), (zcq hb K x6 :), (zcq hb K x7 :), (zcq hb K x8 :)⟩;have h6 : Below wr.heap.size wr wr.drew := bdN wr 1;clear ha z7 hD;go_upto_region 5 with fail;go_cut [7, 8, 9] (fun s7 s8 s9 wx => ∃ b5 b6 b7 : Nat, s7 = .pointer (some ⟨b5, 0, none⟩) /\ s8 = .pointer (some ⟨b6, 0, none⟩) /\ s9 = .pointer (some ⟨b7, 0, none⟩) /\ CorB wx b5 ca /\ CorB wx b6 cb /\ CorB wx b7 cd /\ Below wr.heap.size wr wx)
   case first =>
    go_region_held3 (fun w' => w'.cell? ⟨H, G, none⟩ = some (.string (RS ca.1.1)) /\ w'.cell? ⟨H, G + 1, none⟩ = some (.string (RS ca.1.2)) /\ w'.cell? ⟨H, G + 2, none⟩ = some (.string (RS ca.2)) /\ w'.cell? ⟨H, G + j1 * 3, none⟩ = some (.string (RS cb.1.1)) /\ w'.cell? ⟨H, G + j1 * 3 + 1, none⟩ = some (.string (RS cb.1.2)) /\ w'.cell? ⟨H, G + j1 * 3 + 2, none⟩ = some (.string (RS cb.2)) /\ w'.cell? ⟨H, G + j2 * 3, none⟩ = some (.string (RS cd.1.1)) /\ w'.cell? ⟨H, G + j2 * 3 + 1, none⟩ = some (.string (RS cd.1.2)) /\ w'.cell? ⟨H, G + j2 * 3 + 2, none⟩ = some (.string (RS cd.2)))
     ((refine HS.out _ ?_; repeat (first | with_reducible exact h6 | with_reducible exact Below.refl _ _ | with_reducible refine Below.drew ?_ | ((with_reducible refine Below.setCell ?_ ?_ _); rotate_left; (first | omega | (simp <;> omega))) | ((with_reducible refine Below.alloc ?_ ?_ _); rotate_left; (first | exact Nat.le_refl _ | omega | (simp <;> omega))))))
     (first | fail)
    all_goals
     go_wp2_with fail;go_meet;refine ⟨_, _, _, rfl, rfl, rfl, ?_, ?_, ?_, ?_⟩
     ·repeat (first | with_reducible refine CorB.drew ?_ | exact CorB.new _ ca _ _ (by first | rfl | simp) | with_reducible refine CorB.alloc ?_ _)
     ·repeat (first | with_reducible refine CorB.drew ?_ | exact CorB.new _ cb _ _ (by first | rfl | simp) | with_reducible refine CorB.alloc ?_ _)
     ·repeat (first | with_reducible refine CorB.drew ?_ | exact CorB.new _ cd _ _ (by first | rfl | simp) | with_reducible refine CorB.alloc ?_ _)
     ·repeat (first | with_reducible exact h6 | with_reducible exact Below.refl _ _ | with_reducible refine Below.drew ?_ | ((with_reducible refine Below.setCell ?_ ?_ _); rotate_left; (first | omega | (simp <;> omega))) | ((with_reducible refine Below.alloc ?_ ?_ _); rotate_left; (first | exact Nat.le_refl _ | omega | (simp <;> omega))))
   case rest =>
   obtain ⟨b5, b6, b7, rfl, rfl, rfl, ⟨a0, a1, t⟩, ⟨b0, b1, s⟩, ⟨d0, d1, o⟩, zj⟩ := hcut;have E : b5 < wc.heap.size := World.block_lt_of_cell? wc _ a0;have h4 : b6 < wc.heap.size := World.block_lt_of_cell? wc _ b0;have D : b7 < wc.heap.size := World.block_lt_of_cell? wc _ d0;have hY := zbt J zj;have hC : Good wc.drew := (Q.below hY).drewN 1;obtain ⟨⟨Z, Y⟩, X⟩ := ca;obtain ⟨⟨O, N⟩, S⟩ := cb;obtain ⟨⟨M, L⟩, R⟩ := cd;dsimp only [SzP] at a0 a1 t b0 b1 s d0 d1 o za zb zd;unfold areaQ at x;dsimp only at x;have hR := Lib.hid fun w Q => rSa O Z k hk (by omega) zb.1.1 za.1.1 w Q
   have hS := Lib.hid fun w Q => rSa N Y k hk (by omega) zb.1.2 za.1.2 w Q
   have hT := Lib.hid fun w Q => rSa M Z k hk (by omega) zd.1.1 za.1.1 w Q
   have hW := Lib.hid fun w Q => rSa L Y k hk (by omega) zd.1.2 za.1.2 w Q
   have s1 : Sz (2 * k + 1) (O - Z) := (zb.1.1.sub za.1.1).mono (by omega);have s2 : Sz (2 * k + 1) (N - Y) := (zb.1.2.sub za.1.2).mono (by omega);have s3 : Sz (2 * k + 1) (M - Z) := (zd.1.1.sub za.1.1).mono (by omega);have s4 : Sz (2 * k + 1) (L - Y) := (zd.1.2.sub za.1.2).mono (by omega);have ze := Lib.hid fun w Q => rMa (O - Z) (L - Y) (2 * k + 1) (by omega) (by omega) s1 s4 w Q
   have zg := Lib.hid fun w Q => rMa (N - Y) (M - Z) (2 * k + 1) (by omega) (by omega) s2 s3 w Q
   have s5 : Sz (4 * k + 2) ((O - Z) * (L - Y)) := (s1.mul s4).mono (by omega);have s6 : Sz (4 * k + 2) ((N - Y) * (M - Z)) := (s2.mul s3).mono (by omega);have z9 := Lib.hid fun w Q => rSa ((O - Z) * (L - Y)) ((N - Y) * (M - Z)) (4 * k + 2) (by omega) (by omega) s5 s6 w Q
   have s7 : Sz (8 * k + 5) ((O - Z) * (L - Y) - (N - Y) * (M - Z)) := (s5.sub s6).mono (by omega);have hP : Hid (∀ (v : Value) (w : World), RdQ w v [X, S, R] -> Good w -> _) := fun v w hr Q => rb0 [X, S, R] k hk (by simp; omega) (by
    intro q hq;simp only [List.mem_cons, List.not_mem_nil, or_false] at hq;rcases hq with rfl | rfl | rfl
    ·exact za.2
    ·exact zb.2
    ·exact zd.2) v w hr Q
   rw [show [X, S, R].foldl (·+ ·) 0 = X + S + R by simp only [List.foldl_cons, List.foldl_nil]; grind] at hP;have s8 : Sz (3 * k + 2) (X + S + R) := ((za.2.add zb.2).add zd.2).mono (by omega);have hN := Lib.hid fun w Q => rMa (X + S + R) (1 / 3) (3 * k + 2) (by omega) (by omega) s8 (hL.out.mono (by omega)) w Q
   have s9 : Sz (3 * k + 3) ((X + S + R) * (1 / 3)) := (s8.mul hL.out).mono (by omega);have zc := Lib.hid fun w Q => rSa ((X + S + R) * (1 / 3)) z (3 * k + 3) (by omega) (by omega) s9 (HZ.out.mono (by omega)) w Q
   have hG : Sz (4 * k + 4) ((X + S + R) * (1 / 3) - z) := (s9.sub HZ.out).mono (by omega);have hO := Lib.hid fun w Q => rMa ((O - Z) * (L - Y) - (N - Y) * (M - Z)) (1 / 2) (8 * k + 5) (by omega) (by omega) s7 (hK.out.mono (by omega)) w Q
   have hH : Sz (8 * k + 6) (((O - Z) * (L - Y) - (N - Y) * (M - Z)) * (1 / 2)) := (s7.mul hK.out).mono (by omega);have zh := Lib.hid fun w Q => rMa (((O - Z) * (L - Y) - (N - Y) * (M - Z)) * (1 / 2)) ((X + S + R) * (1 / 3) - z) (8 * k + 6) (by omega) (by omega) hH (hG.mono (by omega)) w Q
   have hJ := Lib.hid fun w Q => rAa (fanI l z n) (((O - Z) * (L - Y) - (N - Y) * (M - Z)) * (1 / 2) * ((X + S + R) * (1 / 3) - z)) ((14 * k + 14) * 6 + 1) (by omega) (by omega) (zf.mono (by have := Nat.mul_le_mul_left (14 * k + 14) (show n <= 6 by omega); omega)) ((hH.mul hG).mono (by omega)) w Q
   rw [Rt1] at hN;rw [Rh1] at hO;obtain ⟨zM, hx⟩ : ∃ r, r = fanI l z n + ((O - Z) * (L - Y) - (N - Y) * (M - Z)) * (1 / 2) * ((X + S + R) * (1 / 3) - z) := ⟨_, rfl⟩;rw [<- hx] at x hJ;clear hx za zb zd zf s1 s2 s3 s4 s5 s6 s7 s8 s9 hG hH;generalize ((O - Z) * (L - Y) - (N - Y) * (M - Z)) * (1 / 2) * ((X + S + R) * (1 / 3) - z) = r1 at *;generalize ((O - Z) * (L - Y) - (N - Y) * (M - Z)) * (1 / 2) = r2 at *;generalize (O - Z) * (L - Y) - (N - Y) * (M - Z) = r3 at *;generalize (X + S + R) * (1 / 3) - z = r4 at *;generalize (X + S + R) * (1 / 3) = r5 at *;generalize X + S + R = r6 at *;generalize (O - Z) * (L - Y) = r7 at *;generalize (N - Y) * (M - Z) = r8 at *;generalize O - Z = r9 at *;generalize L - Y = r10 at *;generalize N - Y = r11 at *;generalize M - Z = r12 at *;clear x0 x1 x2 x3 x4 x5 x6 x7 x8 HS h6;go_wp2_with fail;go_region_held3 (fun w' => w'.cell? ⟨b5, 0, none⟩ = some (.string (RS Z)) /\ w'.cell? ⟨b5, 1, none⟩ = some (.string (RS Y)) /\ w'.cell? ⟨b6, 0, none⟩ = some (.string (RS O)) /\ w'.cell? ⟨b6, 1, none⟩ = some (.string (RS N)))
    (first | exact ⟨a0, a1, b0, b1⟩ | exact ⟨p_1_0, p_1_1, p_1_2, p_1_3⟩ | exact ⟨p_2_0, p_2_1, p_2_2, p_2_3⟩)
    (first
    | (go_at_call 68; refine (hS.out _ hE).mono ?_; rintro e h5 ⟨_, rfl, rfl, B⟩
       have p_2_0 := zct B p_1_0;have p_2_1 := zct B p_1_1;have p_2_2 := zct B p_1_2;have p_2_3 := zct B p_1_3;have zt := B.size;have z8 := hE.below B)
    | (go_at_call 68; refine (hR.out _ hC).mono ?_; rintro e zu ⟨_, rfl, rfl, C⟩
       have p_1_0 := zct C a0;have p_1_1 := zct C a1;have p_1_2 := zct C b0;have p_1_3 := zct C b1;have zs : wc.heap.size <= zu.heap.size := C.size;have hE := hC.below C))
   have pB : Below wc.heap.size wc h5 := zbt (zbt (bdN wc 1) C) B;have hZ := zbt hY pB;have hc := zcq pB E a0;have hd := zcq pB E a1;have hy := zcq pB E t;have hA := zcq pB h4 s;have he := zcq pB D d0;have hf := zcq pB D d1;have hB := zcq pB D o;have d : b5 < h5.heap.size := Nat.lt_of_lt_of_le E pB.size;have a : b6 < h5.heap.size := Nat.lt_of_lt_of_le h4 pB.size;have h0 : b7 < h5.heap.size := Nat.lt_of_lt_of_le D pB.size;have f : Good h5.drew := z8.drewN 1;obtain ⟨V, hV⟩ := zex h5;rw [<- hV] at hZ hc hd hy hA he hf hB d a h0 f ⊢;clear hV a0 a1 t b0 b1 s d0 d1 o pB hE z8 C B zs zt p_1_0 p_1_1 p_1_2 p_1_3 p_2_0 p_2_1 p_2_2 p_2_3 E h4 D hR hS;go_wp2_with fail;go_region_held3 (fun w' => w'.cell? ⟨b5, 0, none⟩ = some (.string (RS Z)) /\ w'.cell? ⟨b5, 1, none⟩ = some (.string (RS Y)) /\ w'.cell? ⟨b7, 0, none⟩ = some (.string (RS M)) /\ w'.cell? ⟨b7, 1, none⟩ = some (.string (RS L)))
    (first | exact ⟨hc, hd, he, hf⟩ | exact ⟨q_1_0, q_1_1, q_1_2, q_1_3⟩ | exact ⟨q_2_0, q_2_1, q_2_2, q_2_3⟩)
    (first
    | (go_at_call 68; refine (hW.out _ hF).mono ?_; rintro e h9 ⟨_, rfl, rfl, y⟩
       have q_2_0 := zct y q_1_0;have q_2_1 := zct y q_1_1;have q_2_2 := zct y q_1_2;have q_2_3 := zct y q_1_3;have zx := y.size;have zv := hF.below y)
    | (go_at_call 68; refine (hT.out _ f).mono ?_; rintro e zy ⟨_, rfl, rfl, A⟩
       have q_1_0 := zct A hc;have q_1_1 := zct A hd;have q_1_2 := zct A he;have q_1_3 := zct A hf;have zw : V.heap.size <= zy.heap.size := A.size;have hF := f.below A))
   have qB : Below V.heap.size V h9 := zbt (zbt (bdN V 1) A) y;have z0 := zbt hZ qB;have t := zcq qB d hy;have s := zcq qB a hA;have o := zcq qB h0 hB;have E : b5 < h9.heap.size := Nat.lt_of_lt_of_le d qB.size;have h4 : b6 < h9.heap.size := Nat.lt_of_lt_of_le a qB.size;have D : b7 < h9.heap.size := Nat.lt_of_lt_of_le h0 qB.size;obtain ⟨U, hU⟩ : ∃ V, V = h9 := ⟨_, rfl⟩;rw [<- hU] at z0 t s o E h4 D ⊢;clear hU hc hd hy hA he hf hB qB hF zv A y zw zx q_1_0 q_1_1 q_1_2 q_1_3 q_2_0 q_2_1 q_2_2 q_2_3 d a h0 hT hW hC f;have z1 := z0;go_wp2_with fail;refine (ze.out _ (Q.below z1)).mono ?_;rintro e y1 ⟨_, rfl, rfl, m⟩;have z2 := zbt z1 m;go_wp2_with fail;refine (zg.out _ (Q.below z2)).mono ?_;rintro e y2 ⟨_, rfl, rfl, g⟩;have hj := zbt z2 g;go_wp2_with fail;refine (z9.out _ (Q.below hj)).mono ?_;rintro e y3 ⟨_, rfl, rfl, hh⟩;have hm := zbt hj hh;have s1 := E;have s2 := h4;have s3 := D;have t := zcq m s1 t;have s := zcq m s2 s;have o := zcq m s3 o;have s1 := Nat.le_trans s1 m.size;have s2 := Nat.le_trans s2 m.size;have s3 := Nat.le_trans s3 m.size;have t := zcq g s1 t;have s := zcq g s2 s;have o := zcq g s3 o;have s1 := Nat.le_trans s1 g.size;have s2 := Nat.le_trans s2 g.size;have s3 := Nat.le_trans s3 g.size;have t := zcq hh s1 t;have s := zcq hh s2 s;have o := zcq hh s3 o;go_wp2_with fail;have z3 := hm.alloc hm.size (.cells #[.string (RS X), .string (RS S), .string (RS R)] 40);refine (hP.out _ _ (RdQ.fresh y3 [X, S, R] _ _ rfl (by simp) 3 rfl _ rfl) (Q.below z3)).mono ?_;rintro e y4 ⟨_, rfl, rfl, zm⟩;have ho := zbt z3 zm;clear t s o s1 s2 s3;go_wp2_with fail;refine (hN.out _ (Q.below ho)).mono ?_;rintro e y5 ⟨_, rfl, rfl, zn⟩;have hp := zbt ho zn;go_wp2_with fail;refine (zc.out _ (Q.below hp)).mono ?_;rintro e y6 ⟨_, rfl, rfl, zo⟩;have hs := zbt hp zo;go_wp2_with fail;refine (hO.out _ (Q.below hs)).mono ?_;rintro e y7 ⟨_, rfl, rfl, zp⟩;have ht := zbt hs zp;go_wp2_with fail;refine (zh.out _ (Q.below ht)).mono ?_;rintro e y8 ⟨_, rfl, rfl, zq⟩;have hu := zbt ht zq;go_wp2_with fail;refine (hJ.out _ (Q.below hu)).mono ?_;rintro e y9 ⟨_, rfl, rfl, zr⟩;have hX := zbt hu zr;go_wp2_with fail;go_roundw
   case rel => exact ⟨n + 1, j2, rfl, hM.out, by omega, by rw [x.out], hX⟩
   case measure =>
    have h7 := HJ.out;have h8 := hM.out;simp [RowKit.intOf]; omega
  ·have zH : ¬ (j2 : Int) < (l.length : Int) := by omega
   have HI : Hid (fanI l z n = integ l z) := by unfold Hid integ; rw [show n = l.length - 2 by omega]
   rw [HI.out];go_wp2_with fail;go_ret;exact ⟨_, rfl, rfl, J⟩
theorem cS2 {a b : Cor} {z : Rat} {k m : Nat} (Z : SzP k a.1 /\ Sz k a.2) (Y : SzP k b.1 /\ Sz k b.2) (U : Sz m z) : SzP (6 * k + m + 4) (cKK a b z).1 := by
 have V := Z.2.sub U;have X := V.div (Z.2.sub Y.2) (by omega);unfold cKK towQ;rw [show (a.2 - z) - (b.2 - z) = a.2 - b.2 by grind];exact ⟨(Z.1.1.add (X.mul (Y.1.1.sub Z.1.1))).mono (by omega), (Z.1.2.add (X.mul (Y.1.2.sub Z.1.2))).mono (by omega)⟩
theorem cB0 {a b : Cor} {z : Rat} {k m : Nat} (Z : SzP k a.1 /\ Sz k a.2) (V : SzP k b.1 /\ Sz k b.2) (X : Sz m z) : ∀ c ∈ cutS a b z, SzP (6 * k + m + 4) c.1 /\ Sz (k + m) c.2 := by
 intro c Y;unfold cutS at Y;rcases List.mem_append.1 Y with h | h
 ·split at h
  ·simp at h; subst h
   exact ⟨⟨Z.1.1.mono (by omega), Z.1.2.mono (by omega)⟩, Z.2.mono (by omega)⟩
  ·simp at h
 ·split at h
  ·simp at h; subst h
   exact ⟨cS2 Z V X, X.mono (by omega)⟩
  ·simp at h
theorem cTS {c0 c1 c2 : Cor} {z : Rat} {k m : Nat} (Y : SzP k c0.1 /\ Sz k c0.2) (X : SzP k c1.1 /\ Sz k c1.2) (V : SzP k c2.1 /\ Sz k c2.2) (Z : Sz m z) : ∀ (i : Nat), ∀ c ∈ cutTo c0 c1 c2 z i, SzP (6 * k + m + 4) c.1 /\ Sz (k + m) c.2
 | 0 => fun c hc => by simp [cutTo] at hc
 | i + 1 => fun c hc => by
   unfold cutTo at hc;rcases List.mem_append.1 hc with h | h
   ·exact cTS Y X V Z i c h
   ·refine cB0 ?_ ?_ Z c h
    ·unfold corA; split <;> assumption
    ·unfold corB; split <;> assumption
theorem pTS {P : List PtQ} {F : List Rat} {tr : Tri} {z : Rat} {k m : Nat} (Y : ∀ x ∈ idxOf tr, SzP k (ptI P x) /\ Sz k (hI F x)) (X : Sz m z) (c : Cor) (Z : c ∈ partT P F z tr) : SzP (6 * k + m + 4) c.1 /\ Sz (k + m) c.2 := by
 unfold partT cutL at Z;split at Z
 ·exact cTS (Y _ (by simp [idxOf])) (Y _ (by simp [idxOf])) (Y _ (by simp [idxOf])) X 3 c Z
 ·simp at Z
theorem pTl (P : List PtQ) (F : List Rat) (z : Rat) (tr : Tri) : (partT P F z tr).length <= 6 := cLl _ _ _ _
theorem fb0 (w : World) (d b f : Value) (P : List PtQ) (T : List Tri) (k : Nat) (F : List Rat) (h : FieldIn w d b f P T k F) (z : Rat) (m n : Nat) (p : Sz m z) (C : 6 * k + m + 4 <= 200) (hn : n <= 20000) (B : (14 * (6 * k + m + 4) + 14) * 4 + 1 <= n) (hV : ∀ t, t <= T.length -> Sz n (volTo P T F z t)) (g : Good w) :
 Calls Tryz.prog 56 #[.agg #[d, b], f, .string (RS z)] w (Ret (fun r _ => r = .string (RS (volTo P T F z T.length))) w) := by
 have HH := Lib.hid h;have h9 := h.m.kpos;have X : Hid (∀ tr ∈ T, ∀ x ∈ idxOf tr, SzP k (ptI P x) /\ Sz k (hI F x)) := fun tr htr x hx => by
  obtain ⟨h0, h1⟩ := h.m.idx tr htr x hx;obtain ⟨q, rfl⟩ : ∃ q : Nat, x = (q : Int) := ⟨x.toNat, by omega⟩;rw [pIn P q (by omega), he0 F q (by have := h.fl; omega)];exact ⟨h.m.sz _ (List.getElem_mem _), h.fs _ (List.getElem_mem _)⟩
 have h6 : Hid (∀ (i : Nat) (hi : i < T.length) (w' : World), FieldIn w' d b f P T k F -> Good w' -> _) := fun i hi w' h' hg' => cc0 w' d b f P T k F h'.p h'.t h'.m.toMIn h'.f h'.fl i i rfl hi (triI T i) (tIn T i hi) hg';have M : Hid (∀ (i : Nat) (hi : i < T.length) (w' : World), Good w' -> _) := fun i hi w' hg' => pd0 P F (triI T i) z k m h9 (by omega) (X.out (triI T i) (by rw [tIn T i hi]; exact List.getElem_mem hi)) p w' hg'
 have O : ∀ (i : Nat) (hi : i < T.length), ∀ c ∈ partT P F z (triI T i), SzP (6 * k + m + 4) c.1 /\ Sz (6 * k + m + 4) c.2 := fun i hi c hc => by
  have := pTS (X.out (triI T i) (by rw [tIn T i hi]; exact List.getElem_mem hi)) p c hc;exact ⟨this.1, this.2.mono (by omega)⟩
 have L : Hid (∀ (i : Nat) (hi : i < T.length) (v : Value) (w' : World), RdK w' v (partT P F z (triI T i)) -> Good w' -> _) := fun i hi v w' hv hg' => ig0 w' v (partT P F z (triI T i)) z (6 * k + m + 4) (by omega) C (pTl _ _ _ _) (O i hi) (p.mono (by omega)) hv hg'
 have K : Hid (∀ (i : Nat) (hi : i < T.length), Sz n (integ (partT P F z (triI T i)) z)) := fun i hi => by
  have := fIS (l := partT P F z (triI T i)) (z := z) (k := 6 * k + m + 4) (by omega) (O i hi) (p.mono (by omega)) ((partT P F z (triI T i)).length - 2);refine this.mono (Nat.le_trans (Nat.add_le_add_right (Nat.mul_le_mul_left _ ?_) 1) B);have := pTl P F z (triI T i);omega
 have a : Hid (∀ (i : Nat) (hi : i < T.length) (w' : World), Good w' -> _) := fun i hi w' hg' => rAa (volTo P T F z i) (integ (partT P F z (triI T i)) z) n (by omega) hn (hV i (by omega)) (K.out i hi) w' hg'
 have h8 : Hid (∀ i, volTo P T F z (i + 1) = volTo P T F z i + integ (partT P F z (triI T i)) z) := fun i => rfl;have ha : volTo P T F z 0 = 0 := rfl;obtain ⟨pp, cp, pt, ct, pf, cf, rfl, rfl, rfl⟩ := h.open;have he : T.length <= 800 := h.m.tlen;obtain ⟨sz, y⟩ : ∃ s, s = RS z := ⟨_, rfl⟩;rw [<- y] at M L ⊢;clear h p C hn B hV O K y X;generalize volTo P T F z = VT at *;go_enter Tryz.func56, Tryz.ntmps56;go_wp2_with fail;obtain ⟨W, j⟩ := zex (w.alloc (.cells #[.slice pp P.length cp, .slice pt T.length ct] 35));have hB : Below w.heap.size w W := by rw [j]; exact zal _ _
 have o : BoxN W w.heap.size 35 [.slice pp P.length cp, .slice pt T.length ct] := by rw [j]; exact BoxN.new _ _ _ _ rfl
 rw [<- j];clear j;have x0 := o.cell 0 rfl;have x1 := o.cell 1 rfl;try go_wp2_with fail
 clear x0 x1;go_loopw [7, 12] (fun t7 t12 wr => ∃ i : Nat, t12 = .int .i64 i /\ i <= T.length /\ t7 = .string (RS (VT i)) /\ Below W.heap.size W wr) (fun _ t12 _ => T.length - (RowKit.intOf t12).toNat)
 case atStart => exact ⟨0, rfl, Nat.zero_le _, by rw [ha, RS_zero], Below.refl _ _⟩
 case round =>
  obtain ⟨i, rfl, hf, rfl, Q⟩ := hrel;have V := zbt hB Q;rcases Nat.lt_or_ge i T.length with h | h
  ·have hh : (i : Int) < (T.length : Int) := by omega
   have b1 := o.below Q o.lt;have x0 := b1.cell 0 rfl;have x1 := b1.cell 1 rfl;have h2 : Hid (∀ w', Below w.heap.size w w' -> _) := fun w' hb => h6.out i h w' (HH.out.below hb) (g.below hb);have h3 : Hid (∀ w', Good w' -> _) := fun w' hg' => M.out i h w' hg';have h4 : Hid (∀ (v : Value) (w' : World), RdK w' v (partT P F z (triI T i)) -> Good w' -> _) := fun v w' hv hg' => L.out i h v w' hv hg';have h5 : Hid (∀ w', Good w' -> _) := fun w' hg' => a.out i h w' hg';have h7 := Lib.hid (h8.out i);go_wp2_with fail;refine (h2.out wr V).mono ?_;rintro e w1 ⟨_, rfl, rfl, U⟩;have H := zbt Q U;have Z := zbt V U;clear x0 x1 b1 U;go_wp2_with fail;refine (h3.out w1 (g.below Z)).mono ?_;rintro e w2 ⟨v2, rfl, A, S⟩;have G := zbt H S;have Y := zbt Z S;have N : RdK w2 v2 (partT P F z (triI T i)) := RdC.of_owns A.1;obtain ⟨pq, cq, rfl, -, -, -⟩ := N.open;clear S A;go_wp2_with fail;refine (h4.out _ w2 N (g.below Y)).mono ?_;rintro e w3 ⟨_, rfl, rfl, R⟩;have E := zbt G R;have J := zbt Y R;clear R N;go_wp2_with fail;refine (h5.out w3 (g.below J)).mono ?_;rintro e w4 ⟨_, rfl, rfl, I⟩;have D := zbt E I;clear I;go_wp2_with fail;go_roundw
   case rel => exact ⟨i + 1, by go_num, by omega, by rw [h7.out], D⟩
   case measure => simp [RowKit.intOf]; omega
  ·have hd : ¬ (i : Int) < (T.length : Int) := by omega
   have HI : Hid (i = T.length) := by unfold Hid; omega
   rw [HI.out];go_wp2_with fail;go_ret;exact ⟨_, rfl, rfl, V⟩
theorem fVo (w : World) (U S V : Value) (P : List PtQ) (T : List Tri) (k : Nat) (F : List Rat) (h : FieldIn w U S V P T k F) (z : Rat) (m n : Nat) (D : Sz m z) (O : 6 * k + m + 4 <= 200) (x : n <= 20000) (N : (14 * (6 * k + m + 4) + 14) * 4 + 1 <= n) (y : ∀ t, t <= T.length -> Sz n (volTo P T F z t)) (Q : Sz 200 (volTo P T F z T.length)) (X : Good w) :
 Calls Tryz.prog 21 #[.agg #[U, S], V, .string (RS z)] w (Ret (fun r _ => r = .tuple #[.string (RS (volTo P T F z T.length)), .int .i64 0]) w) := by
 have C := Lib.hid h;have L : Hid (∀ w', FieldIn w' U S V P T k F -> Good w' -> _) := fun w' h X => fok w' U S V P T k F h z (D.mono (by omega)) X
 have J : Hid (∀ w', FieldIn w' U S V P T k F -> Good w' -> _) := fun w' h X => fb0 w' U S V P T k F h z m n D O x N y X;have K : Hid (∀ w', Good w' -> _) := fun w' hg' => fa0 (volTo P T F z T.length) Q w' hg';obtain ⟨v, B, s, A, i, j, rfl, rfl, rfl⟩ := h.open;generalize volTo P T F z T.length = res at *;generalize RS res = ress at *;generalize RS z = sz at *;clear h D O x N y Q;go_enter Tryz.func21, Tryz.ntmps21;go_wp2_with fail;obtain ⟨W, M⟩ := zex (w.alloc (.cells #[.slice v P.length B, .slice s T.length A] 35));have H : Below w.heap.size w W := by rw [M]; exact zal _ _
 have I : BoxN W w.heap.size 35 [.slice v P.length B, .slice s T.length A] := by rw [M]; exact BoxN.new _ _ _ _ rfl
 rw [<- M];clear M;refine (L.out W (C.out.below H) (X.below H)).mono ?_;rintro e q ⟨_, rfl, rfl, Y⟩;have Z := zbt H Y;have b1 := I.below Y I.lt;have o := b1.cell 0 rfl;have l := b1.cell 1 rfl;clear Y I;go_wp2_with fail;refine (J.out q (C.out.below Z) (X.below Z)).mono ?_;rintro e p ⟨_, rfl, rfl, G⟩;have R := zbt Z G;clear o l;go_wp2_with fail;refine (K.out p (X.below R)).mono ?_;rintro e g ⟨_, rfl, rfl, E⟩;go_wp2_with fail;go_ret2;exact ⟨_, rfl, rfl, (zbt R E)⟩
end Go.Proofs.YtbfcmipplhkkeaaGreatDoor
namespace Go.Proofs.YtbfcmipplhkkeaaGreatDoor
open Go
section
variable {P : Program} {ops : Array Oper} {Q : Exit -> Act -> World -> Prop} {md : Region.Mode} {S : Array Bool -> World -> Prop}
def AnyL (P : Program) (md : Region.Mode) (ops : Array Oper) (Q : Exit -> Act -> World -> Prop) (S : Array Bool -> World -> Prop) : Nat -> Array Bool -> Act -> World -> Prop
 | 0, l, a, w => Region.ready md ops l = [] /\ Q .normal a w
 | n + 1, l, a, w => (Region.ready md ops l = [] -> Q .normal a w) /\ ∀ i ∈ Region.ready md ops l, wpOp P ops Q i (fun a' w' => S (l.setIfInBounds i true) w' /\ AnyL P md ops Q S n (l.setIfInBounds i true) a' w') a w
theorem AnyL.any : ∀ (n : Nat) (l : Array Bool) (a : Act) (w : World), AnyL P md ops Q S n l a w -> wpAny P md ops Q n l a w
 | 0, _, _, _, h => h
 | n + 1, _, _, _, h => ⟨h.1, fun i hi => wpOp_mono (fun a' w' h' => AnyL.any n _ a' w' h'.2) (h.2 i hi)⟩
theorem AnyL.region {id : Nat} {a : Act} {w : World} (Z : P.follows .mixedOrders = true)
 (h : AnyL P .any ops Q S ops.size (Array.replicate ops.size false) a w.drew) : (Code.region id ops true).wp P Q a w :=
 wp_region_any Z (AnyL.any _ _ _ _ h)
theorem AnyL.first {i : Nat} {oi : Oper} {v : Value} {C : World -> Prop} {R : Array Bool -> Prop} (K : ops[i]? = some oi) (I : Region.noSelect ops = true)
 (hQ : ∀ c a w, Q (.panic c) (a.put oi.dst v) w -> Q (.panic c) a w)
 (B : ∀ l j, R l -> j ∈ Region.ready md ops l -> l.getD i true = false -> j ≠ i -> R (l.setIfInBounds j true))
 (E : ∀ l w, R l -> S (l.setIfInBounds i true) w -> C w) (D : ∀ l w, R l -> S (l.setIfInBounds i true) w -> S l w) :
 ∀ (n : Nat) (l : Array Bool) (a : Act) (w : World),
  (∀ j O, ops[j]? = some O -> j ≠ i -> l.getD j true = false -> (∀ e ∈ O.after, Region.binds md e = true -> e.on ≠ i) -> oi.apart ops O = true) ->
  R l -> i ∈ Region.ready md ops l -> YieldsIf P ops C oi v a -> C w -> S (l.setIfInBounds i true) w ->
  AnyL P md ops Q S n (l.setIfInBounds i true) (a.put oi.dst v) w -> AnyL P md ops Q S (n + 1) l a w
 | 0, l, a, w, _, _, hr, hy, hc, hS, H => by
   refine ⟨fun h => (by rw [h] at hr; cases hr), fun j hj => ?_⟩;by_cases e : j = i
   ·subst e; exact hy.wpOp K hc ⟨hS, H⟩
   ·have := ready_mono hj e
    rw [H.1] at this;cases this
 | n + 1, l, a, w, hf, hRl, hr, hy, hc, hS, H => by
   refine ⟨fun h => (by rw [h] at hr; cases hr), fun j hj => ?_⟩;by_cases e : j = i
   ·subst e; exact hy.wpOp K hc ⟨hS, H⟩
   ·have Z := (mem_ready.1 hr).1
    obtain ⟨M, O, U, N⟩ := mem_ready.1 hj;have J : ∀ d ∈ O.after, Region.binds md d = true -> d.on ≠ i := fun d hd hb heq => by
     have Y := N d hd hb;rw [heq] at Y;rw [Array.getD_eq_getD_getElem?] at Y Z;cases hg : l[i]? with
     | none => rw [hg] at Y; cases Y
     | some b => rw [hg] at Y Z; simp at Y Z; rw [Y] at Z; cases Z
    have A := wpOp_putIf U (hf j O U e M J) (fun cs b => Region.noSelect_spec I i oi cs b K) (fun cs b => Region.noSelect_spec I j O cs b U) hQ hy (H.2 j (ready_mono hj e));have X := B l j hRl hj Z e;have V : (l.setIfInBounds i true).setIfInBounds j true = (l.setIfInBounds j true).setIfInBounds i true := Array.setIfInBounds_comm _ _ (Ne.symm e);refine wpOp_mono (fun a' w' h3 => ?_) A;obtain ⟨z, L, G⟩ := h3;rw [V] at L G;refine ⟨D _ _ X L, AnyL.first K I hQ B E D n _ a' w' (fun m om hom hmi hmu hmn => hf m om hom hmi ?_ hmn) X (ready_mono hr (Ne.symm e)) z (E _ _ X L) L G⟩;by_cases hjm : j = m
    ·subst hjm; exact M
    ·rw [getD_set_ne true hjm] at hmu; exact hmu
def Till (k : Nat) (A B : World -> Prop) (l : Array Bool) (w : World) : Prop := A w /\ (l.getD k true = false -> B w)
theorem AnyL.take {k i : Nat} {A B : World -> Prop} {oi : Oper} {v : Value} {n : Nat} {l : Array Bool} {a : Act} {w : World} (X : ops[i]? = some oi) (S : Region.noSelect ops = true)
 (V : Region.free md ops l i = true) (U : (Region.ready md ops l).contains i = true) (Z : i ≠ k) (hQ : ∀ c a w, Q (.panic c) (a.put oi.dst v) w -> Q (.panic c) a w)
 (hy : YieldsIf P ops A oi v a) (Y : Till k A B l w) (h : AnyL P md ops Q (Till k A B) n (l.setIfInBounds i true) (a.put oi.dst v) w) : AnyL P md ops Q (Till k A B) (n + 1) l a w := by
 refine AnyL.first (R := fun _ => True) (C := A) X S hQ (fun _ _ _ _ _ _ => trivial) (fun _ _ _ h => h.1) (fun l w _ h => ⟨h.1, fun hk => h.2 (by rw [getD_set_ne true Z]; exact hk)⟩) n l a w (Region.free_spec X V) trivial (by simpa using U) hy Y.1 ⟨Y.1, fun hk => Y.2 (by rw [getD_set_ne true Z] at hk; exact hk)⟩ h
theorem AnyL.take2 {k i : Nat} {A B : World -> Prop} {oi ok : Oper} {v : Value} {n : Nat} {l : Array Bool} {a : Act} {w : World} (M : ops[i]? = some oi) (I : Region.noSelect ops = true)
 (K : Region.free md ops l i = true) (J : (Region.ready md ops l).contains i = true) (Y : i ≠ k) (X : ops[k]? = some ok) (hw : (ok.after.any fun e => Region.binds md e && e.on == i) = true) (U : l.getD k true = false)
 (hQ : ∀ c a w, Q (.panic c) (a.put oi.dst v) w -> Q (.panic c) a w)
 (hy : YieldsIf P ops (fun w => A w /\ B w) oi v a) (S : Till k A B l w) (h : AnyL P md ops Q (Till k A B) n (l.setIfInBounds i true) (a.put oi.dst v) w) : AnyL P md ops Q (Till k A B) (n + 1) l a w := by
 obtain ⟨e, L, O⟩ := Array.any_eq_true'.1 hw;simp only [Bool.and_eq_true, beq_iff_eq] at O;refine AnyL.first (R := fun l => l.getD k true = false) (C := fun w => A w /\ B w) M I hQ (fun l j hR hj hun hji => ?_) (fun l w hR h => ⟨h.1, h.2 (by rw [getD_set_ne true Y]; exact hR)⟩)
  (fun l w _ h => ⟨h.1, fun X => h.2 (by rw [getD_set_ne true Y]; exact X)⟩) n l a w (Region.free_spec M K) U (by simpa using J) hy ⟨S.1, S.2 U⟩ ⟨S.1, fun X => S.2 (by rw [getD_set_ne true Y] at X; exact X)⟩ h
 by_cases hjk : j = k
 ·subst hjk
  obtain ⟨_, H, N, V⟩ := mem_ready.1 hj;obtain rfl : H = ok := Option.some.inj (N.symm.trans X);have Z := V e L O.1;rw [O.2] at Z;rw [Array.getD_eq_getD_getElem?] at Z hun;cases hg : l[i]? with
  | none => rw [hg] at Z; cases Z
  | some b => rw [hg] at Z hun; simp at Z hun; rw [Z] at hun; cases hun
 ·rw [getD_set_ne true hjk]; exact hR
theorem AnyL.one {i : Nat} {o : Oper} {n : Nat} {l : Array Bool} {a : Act} {w : World} (Z : Region.ready md ops l = [i]) (Y : ops[i]? = some o)
 (h : ∀ K' : Act -> World -> Prop, Shut (∀ a w, S (l.setIfInBounds i true) w -> (S (l.setIfInBounds i true) w -> AnyL P md ops Q S n (l.setIfInBounds i true) a w) -> K' a w) -> if Region.wanted o (yielded ops a.tmps) = true then Oper.wp P o a w K' Q else K' (a.put o.dst undef) w) :
 AnyL P md ops Q S (n + 1) l a w := by
 refine ⟨fun h0 => (by rw [h0] at Z; cases Z), fun j hj => ?_⟩;rw [Z] at hj;obtain rfl : j = i := by simpa using hj
 exact wpOp_step Y (fun K' hK => h K' (fun a w hS hW => hK a w ⟨hS, hW hS⟩))
theorem AnyL.done {l : Array Bool} {a : Act} {w : World} (Z : Region.ready md ops l = []) (h : Q .normal a w) : ∀ n, AnyL P md ops Q S n l a w
 | 0 => ⟨Z, h⟩
 | _ + 1 => ⟨fun _ => h, by rw [Z]; simp⟩
theorem zlk (i : Nat) {k : Nat} {A B : World -> Prop} {oi : Oper} {v : Value} {n : Nat} {l l0 : Array Bool} {a : Act} {w : World} (Z : Till k A B l0 w) (h : AnyL P md ops Q (Till k A B) n (l.setIfInBounds i true) (a.put oi.dst v) w)
 (Y : ops[i]? = some oi := by rfl) (hs : Region.noSelect ops = true := by kernel_rfl) (hf : Region.free md ops l i = true := by kernel_rfl) (hr : (Region.ready md ops l).contains i = true := by kernel_rfl) (hki : i ≠ k := by decide) (hl : l0.getD k true = false := by rfl)
 (hQ : ∀ c a w, Q (.panic c) (a.put oi.dst v) w -> Q (.panic c) a w := by exact fun _ _ _ h => h)
 (hy : YieldsIf P ops A oi v a := by exact Or.inl ⟨by rfl, by intro w h; (try dsimp only at h); first | (go_simp; done) | (go_simp; with_reducible rfl)⟩) : AnyL P md ops Q (Till k A B) (n + 1) l a w :=
 AnyL.take Y hs hf hr hki hQ hy ⟨Z.1, fun _ => Z.2 hl⟩ h
theorem zhk {S : World -> Prop} (i : Nat) {oi : Oper} {v : Value} {n : Nat} {l : Array Bool} {a : Act} {w : World} (h : wpAnyH P md ops Q S n (l.setIfInBounds i true) (a.put oi.dst v) w)
 (Z : ops[i]? = some oi := by rfl) (hs : Region.noSelect ops = true := by kernel_rfl) (hf : Region.free md ops l i = true := by kernel_rfl) (hr : (Region.ready md ops l).contains i = true := by kernel_rfl)
 (hQ : ∀ c a w, Q (.panic c) (a.put oi.dst v) w -> Q (.panic c) a w := by exact fun _ _ _ h => h)
 (hy : YieldsIf P ops S oi v a := by exact Or.inl ⟨by rfl, by intro w h; (try dsimp only at h); first | (go_simp; done) | (go_simp; with_reducible rfl)⟩) (hS : S w := by assumption) : wpAnyH P md ops Q S (n + 1) l a w :=
 wpAnyH_take Z hs hf hr hQ hy hS h
end
end Go.Proofs.YtbfcmipplhkkeaaGreatDoor
