import Derived.Test.YtmcbeajdloaliaaGreatDoorUF2
/- The walk over field.cut. The walks over field.level, field.Level. The walks over field.integral, field.volume, field.Volume. The walks over field.volume, field.Volume. The walk over field.checks of two fields. A region that draws its order, with a condition on the world that may end with The walk over mesh.within. The walk over slices.SortFunc at numbers, where there are at most twelve. The walks over the predicate of mesh.Along and over slices.IndexFunc at spans. Plain The contracts of slices.SortFunc and slices.Compact at a slice of the call's -/
set_option maxHeartbeats 8000000
set_option maxRecDepth 100000
namespace Go.Proofs.YtmcbeajdloaliaaGreatDoor
open Go.RowKit Go.Lib
theorem oRb {w : World} {b b' e s n : Nat} {v : Value} {xs : List Value} (h : w.ownsRow b e s v n xs) (V : b' <= b) : w.ownsRow b' e s v n xs := by
 obtain ⟨X, Y⟩ := h;refine ⟨X, ?_⟩;rcases Y with Y | ⟨g, cap, Z, R, U, S⟩
 ·exact .inl Y
 ·exact .inr ⟨g, cap, Z, R, Nat.le_trans V U, S⟩
theorem oat {w : World} {b1 b2 e1 e2 s1 s2 n1 n2 : Nat} {v1 v2 : Value} {x1 x2 : List Value} (S : w.ownsRow b1 e1 s1 v1 n1 x1) (R : w.ownsRow b2 e2 s2 v2 n2 x2) (Y : e1 ≠ e2) : v1.ownBlock = none \/ v1.ownBlock ≠ v2.ownBlock := by
 rcases S.2 with ⟨rfl, _⟩ | ⟨g, cap, U, rfl, _, Q, _⟩
 ·exact .inl rfl
 ·refine .inr fun e => ?_
  rcases R.2 with ⟨rfl, _⟩ | ⟨O, X, V, rfl, _, Z, _⟩
  ·simp [Value.ownBlock] at e
  ·simp [Value.ownBlock] at e
   subst e;rw [Q] at Z;injection Z with h
   injection h with _ h
   exact Y h
theorem obN {w : World} {b1 e1 s1 n1 b t : Nat} {v1 : Value} {x1 l : List Value} (V : w.ownsRow b1 e1 s1 v1 n1 x1) (U : BoxN w b t l) (Z : e1 ≠ t) : some b ≠ v1.ownBlock := by
 rcases V.2 with ⟨rfl, _⟩ | ⟨g, cap, X, rfl, _, Y, _⟩
 ·intro e; simp [Value.ownBlock] at e
 ·intro e
  simp [Value.ownBlock] at e;subst e;rw [show w.heap[b]? = _ from U] at Y;injection Y with h
  injection h with _ h
  exact Z h.symm
theorem fm0 (c0 c1 c2 : Cor) (z : Rat) (k : Nat) (hk : 0 < k) (yH : k <= 300) (h0 : SzP k c0.1 /\ Sz k c0.2) (h1 : SzP k c1.1 /\ Sz k c1.2) (h2 : SzP k c2.1 /\ Sz k c2.2) (hz : Sz k z) (w : World) (V : Good w) :
 Calls Tryz.prog 144 #[.agg #[.string (RS c0.1.1), .string (RS c0.1.2), .string (RS c0.2), .string (RS c1.1.1), .string (RS c1.1.2), .string (RS c1.2), .string (RS c2.1.1), .string (RS c2.1.2), .string (RS c2.2)], .string (RS z)] w (Ret (fun r w' => w'.ownsRow w.heap.size 214 3 r (cutL c0 c1 c2 z).length (cCC (cutL c0 c1 c2 z)) /\ (cutL c0 c1 c2 z = [] -> r = .slice none 0 0)) w) := by
 have HZ := Lib.hid hz;obtain ⟨za, hC⟩ : ∃ s, s = RS c0.1.1 := ⟨_, rfl⟩;obtain ⟨zb, hD⟩ : ∃ s, s = RS c0.1.2 := ⟨_, rfl⟩;obtain ⟨zc, hE⟩ : ∃ s, s = RS c0.2 := ⟨_, rfl⟩;obtain ⟨zd, hF⟩ : ∃ s, s = RS c1.1.1 := ⟨_, rfl⟩;obtain ⟨ze, hG⟩ : ∃ s, s = RS c1.1.2 := ⟨_, rfl⟩;obtain ⟨zf, hH⟩ : ∃ s, s = RS c1.2 := ⟨_, rfl⟩;obtain ⟨zg, hJ⟩ : ∃ s, s = RS c2.1.1 := ⟨_, rfl⟩;obtain ⟨zh, hK⟩ : ∃ s, s = RS c2.1.2 := ⟨_, rfl⟩;obtain ⟨zi, hL⟩ : ∃ s, s = RS c2.2 := ⟨_, rfl⟩;rw [<- hC, <- hD, <- hE, <- hF, <- hG, <- hH, <- hJ, <- hK, <- hL];have zL : Hid (∀ i : Nat, i < 3 -> ∃ (A B : Cor) (j : Nat), A = corA c0 c1 c2 i /\ B = corB c0 c1 c2 i /\ ((i : Int) + 1).tmod 3 = (j : Int) /\ j < 3 /\ (SzP k A.1 /\ Sz k A.2) /\ (SzP k B.1 /\ Sz k B.2) /\
  (∀ w, (Instr.index 215 (.agg #[.string za, .string zb, .string zc, .string zd, .string ze, .string zf, .string zg, .string zh, .string zi]) (.int .i64 (i : Int))).run Tryz.prog w = .ok (.agg #[.string (RS A.1.1), .string (RS A.1.2), .string (RS A.2)]) w) /\
  (∀ (w : World) (b : Nat), BoxN w b 215 [.string za, .string zb, .string zc, .string zd, .string ze, .string zf, .string zg, .string zh, .string zi] -> w.cell? ⟨b, j * 3, none⟩ = some (.string (RS B.1.1)) /\ w.cell? ⟨b, j * 3 + 1, none⟩ = some (.string (RS B.1.2)) /\ w.cell? ⟨b, j * 3 + 2, none⟩ = some (.string (RS B.2)))) := fun i hi => by
  subst hC hD hE hF hG hH hJ hK hL;obtain rfl | rfl | rfl : i = 0 \/ i = 1 \/ i = 2 := by omega
  ·exact ⟨c0, c1, 1, rfl, rfl, rfl, by decide, h0, h1, iC0 _ _ _ _ _ _ _ _ _, fun w b h => ⟨h.cell 3 rfl, h.cell 4 rfl, h.cell 5 rfl⟩⟩
  ·exact ⟨c1, c2, 2, rfl, rfl, rfl, by decide, h1, h2, iC1 _ _ _ _ _ _ _ _ _, fun w b h => ⟨h.cell 6 rfl, h.cell 7 rfl, h.cell 8 rfl⟩⟩
  ·exact ⟨c2, c0, 0, rfl, rfl, rfl, by decide, h2, h0, iC2 _ _ _ _ _ _ _ _ _, fun w b h => ⟨h.cell 0 rfl, h.cell 1 rfl, h.cell 2 rfl⟩⟩
 clear hC hD hE hF hG hH hJ hK hL h0 h1 h2 hz;obtain ⟨i0, hi, hN, hO, hP⟩ := info_parts icr;go_enter Tryz.func144, Tryz.ntmps144;go_wp2_with fail;obtain ⟨W, hW⟩ := zex (w.alloc (.cells #[.string za, .string zb, .string zc, .string zd, .string ze, .string zf, .string zg, .string zh, .string zi] 215));have hB : Below w.heap.size w W := by rw [hW]; exact zal _ _
 have e2 : BoxN W w.heap.size 215 [.string za, .string zb, .string zc, .string zd, .string ze, .string zf, .string zg, .string zh, .string zi] := by rw [hW]; exact BoxN.new _ _ _ _ rfl
 rw [<- hW];clear hW;have yu := e2.lt;go_loopw [5, 6, 16] (fun t5 t6 t16 wr => ∃ (i n : Nat) (b : Bool), t16 = .int .i64 i /\ t6 = .bool b /\ i <= 3 /\ n <= 2 * i /\ Hid ((cutTo c0 c1 c2 z i).length = n) /\ Hid (b = se0 c0 c1 c2 z i) /\ wr.ownsRow W.heap.size 214 3 t5 n (cCC (cutTo c0 c1 c2 z i)) /\ Below W.heap.size W wr) (fun _ _ t16 _ => 3 - (RowKit.intOf t16).toNat)
 case atStart => exact ⟨0, 0, false, rfl, rfl, Nat.zero_le _, Nat.le_refl _, rfl, rfl, World.ownsRow_nil _ _ _ _, Below.refl _ _⟩
 case round =>
  obtain ⟨i, n, b, rfl, rfl, yF, yI, hU, hf, M, U⟩ := hrel;obtain ⟨p5, c5, rfl⟩ := oRs M;have yw := U.size;have zQ : ∀ j, (Value.slice p5 n c5).ownBlock = some j -> W.heap.size <= j /\ j < wr.heap.size := fun j hj => M.lt j hj;rcases Nat.lt_or_ge i 3 with h | h
  ·obtain ⟨A, B, j, hA, y7, hj, yG, a, h3, ym, d⟩ := zL.out i h
   have hX : Hid (cutTo c0 c1 c2 z (i + 1) = cutTo c0 c1 c2 z i ++ cutS A B z) := by rw [hA, y7]; rfl
   have hl : Hid (se0 c0 c1 c2 z (i + 1) = (b || decide (0 < (A.2 - z).num.sign))) := by rw [hA, hf.out]; rfl
   clear hA y7;have zS := Lib.hid a;have zT := Lib.hid h3;have N : Sz (2 * k + 1) (A.2 - z) := (a.2.sub HZ.out).mono (by omega);have hM : Sz (2 * k + 1) (B.2 - z) := (h3.2.sub HZ.out).mono (by omega);have HX := Lib.hid fun w V => rSa A.2 z k hk (by omega) a.2 HZ.out w V
   have HY := Lib.hid fun w V => rSa B.2 z k hk (by omega) h3.2 HZ.out w V
   obtain ⟨x, hx⟩ := zex (A.2 - z);obtain ⟨y, hy⟩ := zex (B.2 - z);rw [<- hx] at N HX hl;rw [<- hy] at hM HY;have zw : Hid (x - y ≠ 0 -> ∀ w, Good w -> _) := fun Y w V => rDa x (x - y) (4 * k + 3) (by omega) (by omega) (N.mono (by omega)) ((N.sub hM).mono (by omega)) Y w V
   have zv := Lib.hid fun w V => rSa x y (2 * k + 1) (by omega) (by omega) N hM w V
   have hV : Hid (x - y ≠ 0 -> Sz (8 * k + 6) (x / (x - y))) := fun Y => (N.div ((N.sub hM).mono (Nat.le_refl _)) (by omega)).mono (by omega)
   have zz : Hid (x - y ≠ 0 -> ∀ w, Good w -> _) := fun Y w V => fb0 A.1.1 B.1.1 (x / (x - y)) (8 * k + 6) (by omega) (by omega) (a.1.1.mono (by omega)) (h3.1.1.mono (by omega)) (hV.out Y) w V
   have zA : Hid (x - y ≠ 0 -> ∀ w, Good w -> _) := fun Y w V => fb0 A.1.2 B.1.2 (x / (x - y)) (8 * k + 6) (by omega) (by omega) (a.1.2.mono (by omega)) (h3.1.2.mono (by omega)) (hV.out Y) w V
   have hS : Hid (cutS A B z = (if 0 <= x.num.sign then [A] else []) ++ (if x.num.sign * y.num.sign < 0 then [cKK A B z] else [])) := by rw [hx, hy]; rfl
   have zu : Hid (cKK A B z = ((towQ A.1.1 B.1.1 (x / (x - y)), towQ A.1.2 B.1.2 (x / (x - y))), z)) := by rw [hx, hy]; rfl
   have zx : Hid (∀ w, _) := fun w => ra0 x w;have zM : Hid (∀ w, _) := fun w => ra0 y w;have hd : Hid (x.num.sign * y.num.sign < 0 -> x - y ≠ 0) := fun hlt e => by
    have e2 : x = y := by grind
    rw [e2] at hlt;rcases sign3 y with e | e | e <;> rw [e] at hlt <;> exact absurd hlt (by decide)
   have zV := Lib.hid (szt x);have zj := Lib.hid (sign3 x);have zk := Lib.hid (sign3 y);generalize x.num.sign = sx at *;generalize y.num.sign = sy at *;clear N hM a h3 hx hy;have zX := e2.bl U;have z7 : Below w.heap.size w wr := zbt hB U;have yD : (j : Int) < 3 := by omega
   have yC : (i : Int) < 3 := by omega
   clear zL;go_upto_region 6 with fail;obtain ⟨J, z3⟩ : ∃ X, X = wr.alloc (.cells #[.string (RS A.1.1), .string (RS A.1.2), .string (RS A.2)] 214) := ⟨_, rfl⟩;have z5 : Below wr.heap.size wr J := by rw [z3]; exact zal _ _
   have e8 : BoxN J wr.heap.size 214 [.string (RS A.1.1), .string (RS A.1.2), .string (RS A.2)] := by rw [z3]; exact BoxN.new _ _ _ _ rfl
   rw [<- z3];clear z3;have zU := Lib.hid z5.size;obtain ⟨k0, k1, k2⟩ := d _ _ (zX.bl z5);go_upto_region 7 with fail;obtain ⟨W2, z4⟩ : ∃ X, X = J.alloc (.cells #[.string (RS B.1.1), .string (RS B.1.2), .string (RS B.2)] 214) := ⟨_, rfl⟩;have zE : Below J.heap.size J W2 := by rw [z4]; exact zal _ _
   have e9 : BoxN W2 J.heap.size 214 [.string (RS B.1.1), .string (RS B.1.2), .string (RS B.2)] := by rw [z4]; exact BoxN.new _ _ _ _ rfl
   rw [<- z4];clear z4 k0 k1 k2 d ym;have g8 := e8.bl zE;have C : Below wr.heap.size wr W2 := zbt z5 zE;have zo : Below w.heap.size w W2 := zbt z7 C;have x0 := g8.cell 2 rfl;have y0 := e9.cell 2 rfl;have yL := g8.lt;have yM := e9.lt;have zG : Good W2.drew := (V.below zo).drewN 1;clear z5 zE e8;go_region_held3 (fun w' => w'.cell? ⟨wr.heap.size, 2, none⟩ = some (.string (RS A.2)) /\ w'.cell? ⟨J.heap.size, 2, none⟩ = some (.string (RS B.2)))
    (first | exact ⟨x0, y0⟩ | exact ⟨p_1_0, p_1_1⟩ | exact ⟨p_2_0, p_2_1⟩)
    (first
    | (go_at_call 23; refine (HY.out _ zJ).mono ?_; rintro e K ⟨_, rfl, rfl, h7⟩
       have p_2_0 := zct h7 p_1_0;have p_2_1 := zct h7 p_1_1;have yz := h7.size;have yx := zJ.below h7)
    | (go_at_call 23; refine (HX.out _ zG).mono ?_; rintro e yA ⟨_, rfl, rfl, h6⟩
       have p_1_0 := zct h6 x0;have p_1_1 := zct h6 y0;have yy : W2.heap.size <= yA.heap.size := h6.size;have zJ := zG.below h6))
   have pB : Below W2.heap.size W2 K := zbt (zbt (bdN W2 1) h6) h7;have hu := WRA M ((zbt C pB));have zr : Below wr.heap.size wr K := zbt C pB;have h8 := g8.bl pB;have h9 := e9.bl pB;have yr := pB.size;clear pB h6 h7 yy yz zJ yx p_1_0 p_1_1 p_2_0 p_2_1 x0 y0 M zG C zo g8 e9 zX;go_upto_region 9 with fail;refine (zx.out K).mono ?_;rintro e w3 ⟨_, rfl, rfl, nd, rfl⟩;go_upto_if 35 with fail;obtain ⟨w3, z8⟩ : ∃ X, X = K.drewN nd := ⟨_, rfl⟩;have ht : Below K.heap.size K w3 := by rw [z8]; exact bdN K nd
   have ys : K.heap.size = w3.heap.size := by rw [z8]; rfl
   rw [<- z8];clear z8;have ye : wr.heap.size <= J.heap.size := zU.out;have f := h8.bl ht;have z1 := h9.bl ht;have R := WRA hu ht;have G : Below wr.heap.size wr w3 := zbt zr ht;have zy : Hid (∀ j, (Value.slice p5 n c5).ownBlock = some j -> W.heap.size <= j /\ j < wr.heap.size) := zQ;generalize cutTo c0 c1 c2 z i = L at *;obtain ⟨L1, y8⟩ : ∃ l, l = L ++ (if 0 <= sx then [A] else []) := ⟨_, rfl⟩;have g := Lib.hid y8;clear y8 h8 h9 hu zr ht;go_cut [5, 6] (fun s5 s6 wx => ∃ (n' : Nat) (b' : Bool), s6 = .bool b' /\ Hid (b' = (b || decide (0 < sx))) /\ n' <= n + 1 /\ Hid (L1.length = n') /\ wx.ownsRow W.heap.size 214 3 s5 n' (cCC L1) /\ Below W.heap.size W wx /\ w3.heap.size <= wx.heap.size /\ BoxN wx wr.heap.size 214 [.string (RS A.1.1), .string (RS A.1.2), .string (RS A.2)] /\ BoxN wx J.heap.size 214 [.string (RS B.1.1), .string (RS B.1.2), .string (RS B.2)])
   case first =>
    rcases Int.lt_or_le sx 0 with hs | hs
    ·have HE : Hid (L1 = L) := by unfold Hid; rw [g.out, if_neg (by omega), List.append_nil]
     have yh : Hid (b = (b || decide (0 < sx))) := by unfold Hid; rw [decide_eq_false (by omega), Bool.or_false]
     go_wp2_with fail;go_meet;exact ⟨n, b, rfl, yh, by omega, by unfold Hid; rw [HE.out]; exact hU.out, by rw [HE.out]; exact R, U.trans (G.mono U.size), Nat.le_refl _, f, z1⟩
    ·have HE : Hid (L1 = L ++ [A]) := by unfold Hid; rw [g.out, if_pos hs]
     have zN : Hid (L1.length = n + 1) := by unfold Hid; rw [HE.out, List.length_append, hU.out]; rfl
     have yi : Hid (cCC L1 = cCC L ++ [.string (RS A.1.1), .string (RS A.1.2), .string (RS A.2)]) := by unfold Hid; rw [HE.out, cCs]
     obtain ⟨q, hq⟩ := zex (decide (0 < sx));obtain ⟨a0, a1, a2⟩ := zk3 f;have t1 : ((RS x).toList == [48]) = !q := by
      rw [hq, Bool.eq_iff_iff, beq_iff_eq, zV.out];clear hq;rcases Int.lt_or_le 0 sx with h1 | h1
      ·rw [decide_eq_true h1]; simp; omega
      ·rw [decide_eq_false (by omega)]; simp; omega
     have HQ := Lib.hid hq;have yo : n <= 4 := by omega
     have yt : W.heap.size <= w3.heap.size := by have := f.lt; omega
     have yc := f.lt;have yd := z1.lt;have yJ : wr.heap.size <= J.heap.size := by omega
     clear hq
     go_wp2_with (at_builtin; refine wpList_append_own _ rfl _ _ 211 rfl W.heap.size 214 i0 (.agg #[.string ⟨#[]⟩, .string ⟨#[]⟩, .string ⟨#[]⟩]) 3 48 Tryz.underlying211 hi hN hO hP rfl (by decide) _ _ _ rfl (R.alloc _) ⟨w3.heap.size, 0, none⟩ 1 1 [.string (RS A.1.1), .string (RS A.1.2), .string (RS A.2)] rfl rfl (cte _ _ _ _ _) (tsr _ _ _) (by unfold maxLen; omega) (by omega) (by simp; omega) ?_
                  intro v4 w4 E Z _;have yf := Z.size;have zs : Below W.heap.size W w4 := ((U.trans (G.mono U.size)).alloc yt _).grown Z (by simp; omega) (fun j hj => by have := (R.lt j hj).1; omega);have y3 := (Z.block wr.heap.size (by simp; omega) (fun e => by have := (zy.out _ e.symm).2; omega)).trans (f.below ((Below.refl _ _).alloc (Nat.le_refl _) _) yc);have y5 := (Z.block J.heap.size (by simp; omega) (fun e => by have := (zy.out _ e.symm).2; omega)).trans (z1.below ((Below.refl _ _).alloc (Nat.le_refl _) _) yd);clear Z)
     all_goals
      have zn : w3.heap.size <= w4.heap.size := by simp at yf; omega
      rw [<- yi.out] at E;go_wp2_with fail;go_meet
      first
           | exact ⟨n + 1, q, rfl, (by unfold Hid; first | rw [HQ.out, (‹b = false› : b = false)]; rfl | rw [HQ.out, Bool.eq_false_iff.2 (‹¬ b = true› : ¬ b = true)]; rfl), Nat.le_refl _, zN, E, zs, zn, y3, y5⟩
           | exact ⟨n + 1, true, rfl, (by unfold Hid; rw [(‹b = true› : b = true)]; rfl), Nat.le_refl _, zN, E, zs, zn, y3, y5⟩
   case rest =>
    obtain ⟨n1, b1, rfl, hR, yn, hc, O, t, yv, zB, zC⟩ := hcut;obtain ⟨pc, cc, rfl⟩ := oRs O;obtain ⟨cr, yb⟩ := zex (decide (sx * sy < 0));have ha := Lib.hid yb;have ho : Below w.heap.size w wc := zbt hB t;clear R f z1 zy G U zV e2 yb;go_upto_region 11 with fail;go_cut [50] (fun s50 wx => s50 = .bool cr /\ ∃ nd, wx = wc.drewN nd)
    case first =>
     clear g O t yv zB zC ho hR yn hc hS zu hd zw zv hV zz zA HX HY zS zT hX hl hU hf yu yw ye yr ys zU V hi hN hO hP HZ hB;go_wp2_with fail;refine (zx.out wc).mono ?_;rintro e w5 ⟨_, rfl, rfl, yN, rfl⟩;go_wp2_with fail;refine (zM.out _).mono ?_;rintro e w6 ⟨_, rfl, rfl, zI, rfl⟩;rcases zj.out with rfl | rfl | rfl <;> rcases zk.out with rfl | rfl | rfl
     all_goals
      go_wp2_with fail;go_meet;exact ⟨by rw [ha.out]; rfl, _, rfl⟩
    case rest =>
     obtain ⟨rfl, zI, rfl⟩ := hcut;obtain ⟨w6, z9⟩ : ∃ X, X = wc.drewN zI := ⟨_, rfl⟩;have c : Below wc.heap.size wc w6 := by rw [z9]; exact bdN wc zI
     have yK : wc.heap.size = w6.heap.size := by rw [z9]; rfl
     rw [<- z9];clear z9;have Q := WRA O c;have hp : Below W.heap.size W w6 := zbt t c;have hm : Below w.heap.size w w6 := zbt ho c;have y4 := zB.bl c;have y6 := zC.bl c;clear O t ho zB zC c;cases cr
     ·have m : Hid (cutTo c0 c1 c2 z (i + 1) = L1) := by
           unfold Hid;have hn : ¬ sx * sy < 0 := fun e => by have := ha.out; rw [decide_eq_true e] at this; cases this
           rw [hX.out, hS.out, g.out, if_neg hn, List.append_nil]
      have zP : Hid ((cutTo c0 c1 c2 z (i + 1)).length = n1) := by unfold Hid; rw [m.out, hc.out]
      have hh : Hid (b1 = se0 c0 c1 c2 z (i + 1)) := by unfold Hid; rw [hl.out, hR.out]
      rw [<- m.out] at Q;go_wp2_with fail;go_roundw
      case rel => exact ⟨i + 1, n1, b1, by go_num, rfl, by omega, by omega, zP, hh, Q, hp⟩
      case measure => simp [RowKit.intOf]; omega
     ·have Y := hd.out (of_decide_eq_true ha.out.symm)
      go_wp2_with fail;refine zR (zv.out w6 (V.below hm)) fun w7 hb7 => ?_;go_wp2_with fail;have zp := zbt hm hb7;refine zR (zw.out Y w7 (V.below zp)) fun w8 hb8 => ?_;have H : Below w6.heap.size w6 w8 := zbt hb7 hb8;have zq : Below w.heap.size w w8 := zbt hm H;have z0 := y4.bl H;have z2 := y6.bl H;have D := WRA Q H;have hr : Below W.heap.size W w8 := zbt hp H;clear hb7 hb8 zp y4 y6 Q hp;go_upto_region 13 with fail
      have m : Hid (cutTo c0 c1 c2 z (i + 1) = L1 ++ [((towQ A.1.1 B.1.1 (x / (x - y)), towQ A.1.2 B.1.2 (x / (x - y))), z)]) := by
           unfold Hid;rw [hX.out, hS.out, g.out, if_pos (of_decide_eq_true ha.out.symm), zu.out, List.append_assoc]
      have zO : Hid ((cutTo c0 c1 c2 z (i + 1)).length = n1 + 1) := by unfold Hid; rw [m.out, List.length_append, hc.out]; rfl
      have zK : Hid (cCC (cutTo c0 c1 c2 z (i + 1)) = cCC L1 ++ [.string (RS (towQ A.1.1 B.1.1 (x / (x - y)))), .string (RS (towQ A.1.2 B.1.2 (x / (x - y)))), .string (RS z)]) := by unfold Hid; rw [m.out, cCs]
      have hh : Hid (b1 = se0 c0 c1 c2 z (i + 1)) := by unfold Hid; rw [hl.out, hR.out]
      have zl := Lib.hid fun w V => zz.out Y w V;have zm := Lib.hid fun w V => zA.out Y w V;clear zw zv hV zz zA hS zu hX hl hR g hd ha HX HY zx zM zj zk zS zT m;generalize RS (towQ A.1.1 B.1.1 (x / (x - y))) = px at *;generalize RS (towQ A.1.2 B.1.2 (x / (x - y))) = py at *;generalize RS (x / (x - y)) = qs at *;clear Y;have yc := z0.lt;have yd := z2.lt;go_cut [14] (fun s14 wx => ∃ hZ : Nat, s14 = .pointer (some ⟨hZ, 0, none⟩) /\ w8.heap.size <= hZ /\ BoxN wx hZ 73 [.string px, .string py] /\ Below w8.heap.size w8 wx)
      case first =>
           have HF : Hid (∀ w', Below w8.heap.size w8 w' -> w'.cell? ⟨wr.heap.size, 0, none⟩ = some (.string (RS A.1.1)) /\ w'.cell? ⟨wr.heap.size, 1, none⟩ = some (.string (RS A.1.2)) /\ w'.cell? ⟨J.heap.size, 0, none⟩ = some (.string (RS B.1.1)) /\ w'.cell? ⟨J.heap.size, 1, none⟩ = some (.string (RS B.1.2))) := fun w' hb => by
            have y1 := z0.bl hb;have y2 := z2.bl hb;exact ⟨y1.cell 0 rfl, y1.cell 1 rfl, y2.cell 0 rfl, y2.cell 1 rfl⟩
           have hT : Hid (∀ w', Below w8.heap.size w8 w' -> Good w') := fun w' hb => (V.below zq).below hb;have b0 : Below w8.heap.size w8 w8.drew := bdN w8 1;have y9 : ∀ w' : World, BoxN (w'.alloc (.cells #[.string ⟨#[]⟩, .string ⟨#[]⟩] 73)) w'.heap.size 73 [.string ⟨#[]⟩, .string ⟨#[]⟩] := fun w' => BoxN.new _ _ _ _ rfl;have zD : ∀ (w' : World) (o : Obj), Below w8.heap.size w8 w' -> Below w8.heap.size w8 (w'.alloc o) := fun w' o hb => hb.alloc hb.size _;have he : Hid (∀ (w' : World) (b i : Nat) (v : Value), w8.heap.size <= b -> Below w8.heap.size w8 w' -> Below w8.heap.size w8 (w'.setCell ⟨b, i, none⟩ v)) := fun w' b i v hb h => h.setCell (p := ⟨b, i, none⟩) hb v;have hY : Hid (∀ w' w'', Below w8.heap.size w8 w' -> Below w'.heap.size w' w'' -> Below w8.heap.size w8 w'') := fun w' w'' h1 h2 => (zbt h1 h2);have zW := Lib.hid y9;have hQ := Lib.hid zD;have zY := (zD _ (.cells #[.string ⟨#[]⟩, .string ⟨#[]⟩] 73) (Below.refl _ w8)).drew;have g0 := hT.out _ b0;have yk := hT.out _ zY;clear y9 zD D hr zq z0 z2 H;go_region_held3 (fun w' => w'.cell? ⟨wr.heap.size, 0, none⟩ = some (.string (RS A.1.1)) /\ w'.cell? ⟨wr.heap.size, 1, none⟩ = some (.string (RS A.1.2)) /\ w'.cell? ⟨J.heap.size, 0, none⟩ = some (.string (RS B.1.1)) /\ w'.cell? ⟨J.heap.size, 1, none⟩ = some (.string (RS B.1.2)))
            ((refine HF.out _ ?_; first | with_reducible assumption | exact (hQ.out _ _ (by with_reducible assumption)).drew | exact hQ.out _ _ (by with_reducible assumption) | (iterate 2 (refine he.out _ _ _ _ (by omega) ?_)); with_reducible assumption))
            (first
                  | (go_at_call 180; (first | refine (zm.out _ g4).mono ?_ | refine (zm.out _ yl).mono ?_); rintro e v5 ⟨_, rfl, rfl, z6⟩
                     have h5 : Below w8.heap.size w8 v5 := by first | exact hY.out _ _ h4 z6 | exact hY.out _ _ zZ z6
                     have yq := h5.size;try have I := yj.bl z6
                     try have I := (zW.out v4).below z6 (by simp)
                     try have q0 := I.cell 0 rfl
                     try have q1 := I.cell 1 rfl
                     try have e0 := I.frozen 0
                     try have e1 := I.frozen 1)
                  | (go_at_call 180; (first | refine (zl.out _ g0).mono ?_ | refine (zl.out _ yk).mono ?_); rintro e v4 ⟨_, rfl, rfl, zF⟩
                     have h4 : Below w8.heap.size w8 v4 := by first | exact hY.out _ _ b0 zF | exact hY.out _ _ zY zF
                     have zZ := hQ.out _ (.cells #[.string ⟨#[]⟩, .string ⟨#[]⟩] 73) h4;have g4 := hT.out _ h4;have yl := hT.out _ zZ;have zH := h4.size;try have yj := (zW.out w8).drew.below zF (by simp)))
           ·go_wp2_with fail
            go_meet;exact ⟨_, rfl, yq, BoxN.new _ _ _ _ rfl, hQ.out _ _ h5⟩
           ·go_wp2_with fail
            go_meet;exact ⟨_, rfl, zH, (I.set 0 _).set 1 _, he.out _ _ _ _ zH (he.out _ _ _ _ zH h5)⟩
           ·go_wp2_with fail
            go_meet;exact ⟨_, rfl, Nat.le_refl _, (I.set 0 _).set 1 _, he.out _ _ _ _ (Nat.le_refl _) (he.out _ _ _ _ (Nat.le_refl _) h5)⟩
      case rest =>
           obtain ⟨hZ, rfl, yB, yg, d⟩ := hcut;have hw := WRA D d;have zt : Below W.heap.size W wc := zbt hr d;have N := zt.size;obtain ⟨k0, k1⟩ := zk2 yg;have yo : n1 <= 6 := by omega
           clear d hr D z0 z2 yg H
           go_wp2_with (at_builtin; refine wpList_append_own _ rfl _ _ 211 rfl W.heap.size 214 i0 (.agg #[.string ⟨#[]⟩, .string ⟨#[]⟩, .string ⟨#[]⟩]) 3 48 Tryz.underlying211 hi hN hO hP rfl (by decide) _ _ _ rfl (hw.alloc _) ⟨wc.heap.size, 0, none⟩ 1 1 [.string px, .string py, .string (RS z)] rfl rfl (cte _ _ _ _ _) (tsr _ _ _) (by unfold maxLen; omega) (by omega) (by simp; omega) ?_
                        intro v9 w9 hv S _;have yE := S.size;have ya : Below W.heap.size W w9 := (zt.alloc N _).grown S (by simp; omega) (fun j hj => by have := (hw.lt j hj).1; omega);clear S)
           rw [<- zK.out] at hv;go_wp2_with fail;go_roundw
           case rel => exact ⟨i + 1, n1 + 1, b1, by go_num, rfl, by omega, by omega, zO, hh, hv, ya⟩
           case measure => simp [RowKit.intOf]; omega
  ·obtain rfl : i = 3 := by omega
   have z7 : Below w.heap.size w wr := zbt hB U;cases b
   ·have HE : Hid (cutL c0 c1 c2 z = []) := by unfold Hid cutL; rw [<- hf.out]; rfl
    go_wp2_with fail;go_ret;exact ⟨_, rfl, ⟨by rw [HE.out]; exact World.ownsRow_nil _ _ _ _, fun _ => rfl⟩, z7⟩
   ·have HE : Hid (cutL c0 c1 c2 z = cutTo c0 c1 c2 z 3) := by unfold Hid cutL; rw [<- hf.out]; rfl
    have hd := Lib.hid (cTn c0 c1 c2 z 3 hf.out.symm);have yp : wr.ownsRow w.heap.size 214 3 (.slice p5 n c5) (cutTo c0 c1 c2 z 3).length (cCC (cutTo c0 c1 c2 z 3)) := by rw [hU.out]; exact oRb M (by omega)
    go_wp2_with fail;go_ret;exact ⟨_, rfl, ⟨by rw [HE.out]; exact yp, fun e => absurd (HE.out.symm.trans e) hd.out⟩, z7⟩
def PartV (w : World) (B : Nat) (v : Value) (l : List Cor) : Prop := w.ownsRow B 214 3 v l.length (cCC l) /\ (l = [] -> v = .slice none 0 0)
theorem pi0 (P : List PtQ) (F : List Rat) (Z : Tri) (z : Rat) (k m : Nat) (O : 0 < k) (R : k + m <= 300) (Y : ∀ x ∈ idxOf Z, SzP k (ptI P x) /\ Sz k (hI F x)) (Q : Sz m z) (w : World) (S : Good w) :
 Calls Tryz.prog 144 #[.agg #[.string (RS (ptI P Z.1).1), .string (RS (ptI P Z.1).2), .string (RS (hI F Z.1)), .string (RS (ptI P Z.2.1).1), .string (RS (ptI P Z.2.1).2), .string (RS (hI F Z.2.1)), .string (RS (ptI P Z.2.2).1), .string (RS (ptI P Z.2.2).2), .string (RS (hI F Z.2.2))], .string (RS z)] w (Ret (fun r w' => PartV w' w.heap.size r (partT P F z Z)) w) := by
 have X := Y Z.1 (by simp [idxOf]);have V := Y Z.2.1 (by simp [idxOf]);have U := Y Z.2.2 (by simp [idxOf]);exact fm0 (corP P F Z.1) (corP P F Z.2.1) (corP P F Z.2.2) z (k + m) (by omega) (by omega) ⟨⟨X.1.1.mono (by omega), X.1.2.mono (by omega)⟩, X.2.mono (by omega)⟩ ⟨⟨V.1.1.mono (by omega), V.1.2.mono (by omega)⟩, V.2.mono (by omega)⟩ ⟨⟨U.1.1.mono (by omega), U.1.2.mono (by omega)⟩, U.2.mono (by omega)⟩ (Q.mono (by omega)) w S
theorem Rt1 : RS (1 / 3) = ⟨#[49, 47, 51]⟩ := by decide +kernel
theorem Rh1 : RS (1 / 2) = ⟨#[49, 47, 50]⟩ := by decide +kernel
structure CorB (w : World) (b : Nat) (c : Cor) : Prop where
 x : w.cell? ⟨b, 0, none⟩ = some (.string (RS c.1.1))
 y : w.cell? ⟨b, 1, none⟩ = some (.string (RS c.1.2))
 z : w.cell? ⟨b, 2, none⟩ = some (.string (RS c.2))
theorem CorB.ofBox {w : World} {b ty : Nat} {c : Cor} (h : BoxN w b ty [.string (RS c.1.1), .string (RS c.1.2), .string (RS c.2)]) : CorB w b c := ⟨h.cell 0 rfl, h.cell 1 rfl, h.cell 2 rfl⟩
theorem CorB.new (w : World) (c : Cor) (Z b : Nat) (Y : w.heap.size = b) : CorB (w.alloc (.cells #[.string (RS c.1.1), .string (RS c.1.2), .string (RS c.2)] Z)) b c := .ofBox (BoxN.new w _ Z b Y)
theorem CorB.alloc {w : World} {b : Nat} {c : Cor} (h : CorB w b c) (o : Obj) : CorB (w.alloc o) b c := ⟨cal _ h.x, cal _ h.y, cal _ h.z⟩
theorem CorB.drew {w : World} {b : Nat} {c : Cor} (h : CorB w b c) : CorB w.drew b c := ⟨h.x, h.y, h.z⟩
theorem fIS {l : List Cor} {z : Rat} {k : Nat} (Y : 0 < k) (U : ∀ c ∈ l, SzP k c.1 /\ Sz k c.2) (S : Sz k z) (n : Nat) : Sz ((14 * k + 14) * n + 1) (fanI l z n) := by
 have Z : ∀ i, SzP k (corI l i).1 /\ Sz k (corI l i).2 := fun i => by
  unfold corI;rcases Nat.lt_or_ge i l.length with h | h
  ·rw [List.getElem?_eq_getElem h]; exact U _ (List.getElem_mem h)
  ·rw [List.getElem?_eq_none h]; exact ⟨⟨Sz.zero _ Y, Sz.zero _ Y⟩, Sz.zero _ Y⟩
 induction n with
 | zero => exact Sz.zero 1 (by omega)
 | succ n ih =>
   have a := (aQS (Z 0).1 (Z (n + 1)).1 (Z (n + 2)).1);have X : Sz 1 (1 / 2 : Rat) := ⟨by decide +kernel, by decide +kernel⟩;have V : Sz 1 (1 / 3 : Rat) := ⟨by decide +kernel, by decide +kernel⟩;have m := (((((Z 0).2.add (Z (n + 1)).2).add (Z (n + 2)).2).mul V).sub S);exact (ih.add ((a.mul X).mul m)).mono (by rw [Nat.mul_add]; omega)
theorem id0 (w : World) (v : Value) (l : List Cor) (z : Rat) (k : Nat) (hk : 0 < k) (zs : k <= 200) (zo : l.length <= 6) (hl : ∀ c ∈ l, SzP k c.1 /\ Sz k c.2) (hz : Sz k z) (hv : RdK w v l) (Q : Good w) :
 Calls Tryz.prog 143 #[v, .string (RS z)] w (Ret (fun r _ => r = .string (RS (integ l z))) w) := by
 have HC : Hid (∀ i, SzP k (corI l i).1 /\ Sz k (corI l i).2) := fun i => by
  unfold corI;rcases Nat.lt_or_ge i l.length with h | h
  ·rw [List.getElem?_eq_getElem h]; exact hl _ (List.getElem_mem h)
  ·rw [List.getElem?_eq_none h]; exact ⟨⟨Sz.zero _ hk, Sz.zero _ hk⟩, Sz.zero _ hk⟩
 have z9 := Lib.hid (fIS hk hl hz);have HZ := Lib.hid hz;have h2 : Sz 1 (1 / 2 : Rat) := ⟨by decide +kernel, by decide +kernel⟩;have h3 : Sz 1 (1 / 3 : Rat) := ⟨by decide +kernel, by decide +kernel⟩;have hF := Lib.hid h2;have hG := Lib.hid h3;obtain ⟨p, cp, rfl, -, -, hp⟩ := hv.open;have h5 : Hid (∀ i : Nat, i < l.length -> ∃ b off, p = some ⟨b, off, none⟩ /\ b < w.heap.size /\ w.cell? ⟨b, off + i * 3, none⟩ = some (.string (RS (corI l i).1.1)) /\ w.cell? ⟨b, off + i * 3 + 1, none⟩ = some (.string (RS (corI l i).1.2)) /\ w.cell? ⟨b, off + i * 3 + 2, none⟩ = some (.string (RS (corI l i).2))) := fun i hi => by
  obtain ⟨b, off, h1, h2, h3⟩ := hp (List.ne_nil_of_length_pos (by omega));rw [cIn l i hi];exact ⟨b, off, h1, h2, h3 i hi⟩
 have ze : fanI l z 0 = 0 := rfl;clear hv hl hz hp h2 h3;go_enter Tryz.func143, Tryz.ntmps143;go_wp2_with fail;go_loopw [5, 6] (fun t5 t6 wr => ∃ n j : Nat, t6 = .int .i64 (j : Int) /\ Hid (j = n + 1) /\ n <= l.length - 2 /\ t5 = .string (RS (fanI l z n)) /\ Below w.heap.size w wr) (fun _ t6 _ => 8 - (RowKit.intOf t6).toNat)
 case atStart => exact ⟨0, 1, rfl, rfl, Nat.zero_le _, by rw [ze, RS_zero], Below.refl _ _⟩
 case round =>
  obtain ⟨n, j1, rfl, HJ, hn, rfl, J⟩ := hrel;have z2 := HJ.out;obtain ⟨j2, hy⟩ : ∃ j, j = n + 2 := ⟨_, rfl⟩;have zy : IntKind.i64.wrap ((j1 : Int) + 1) = (j2 : Int) := (IntWalk.i64_in _ (by omega)).trans (by omega);rcases Nat.lt_or_ge (n + 2) l.length with h | h
  ·have zx : (j2 : Int) < (l.length : Int) := by omega
   have zp : (j1 : Int) < (l.length : Int) := by omega
   have zt : (0 : Int) < (l.length : Int) := by omega
   have zg : 0 < l.length := by omega
   have zu : ¬ l = [] := List.ne_nil_of_length_pos zg;have zv : ¬ l.length = 0 := by omega
   obtain ⟨bl, H, rfl, I, a0, a1, x⟩ := h5.out 0 (by omega);obtain ⟨zq, zz, e1, -, b0, b1, t⟩ := h5.out (n + 1) (by omega);obtain ⟨zr, zA, e2, -, d0, d1, s⟩ := h5.out (n + 2) (by omega);injection e1 with e1
   injection e1 with e1 e1' _
   injection e2 with e2
   injection e2 with e2 e2' _
   subst e1 e1' e2 e2';have K : bl < wr.heap.size := Nat.lt_of_lt_of_le I J.size;have y : Hid (fanI l z (n + 1) = fanI l z n + areaQ (corI l 0).1 (corI l (n + 1)).1 (corI l (n + 2)).1 * (1 / 2) * (((corI l 0).2 + (corI l (n + 1)).2 + (corI l (n + 2)).2) * (1 / 3) - z)) := rfl;have zf := z9.out n;have za := HC.out 0;have zb := HC.out (n + 1);have zd := HC.out (n + 2);have x0 := zcq J I a0;have x1 := zcq J I a1;have x2 := zcq J I x;have x3 := zcq J I b0;have x4 := zcq J I b1;have x5 := zcq J I t;have x6 := zcq J I d0;have x7 := zcq J I d1;have x8 := zcq J I s;rw [Nat.zero_mul, Nat.add_zero] at x0 x1 x2;obtain ⟨ca, hZ⟩ : ∃ c, c = corI l 0 := ⟨_, rfl⟩;obtain ⟨cb, z0⟩ : ∃ c, c = corI l (n + 1) := ⟨_, rfl⟩;obtain ⟨cd, z1⟩ : ∃ c, c = corI l (n + 2) := ⟨_, rfl⟩;rw [<- hZ] at za y x0 x1 x2;rw [<- z0] at zb y x3 x4 x5;rw [<- z1] at zd y x6 x7 x8;rw [<- z2] at x3 x4 x5;rw [<- hy] at x6 x7 x8;have hH := Lib.hid hy;clear hZ z0 z1 a0 a1 x b0 b1 t d0 d1 s;have HS : Hid (∀ w', Below wr.heap.size wr w' -> w'.cell? ⟨bl, H, none⟩ = some (.string (RS ca.1.1)) /\ w'.cell? ⟨bl, H + 1, none⟩ = some (.string (RS ca.1.2)) /\ w'.cell? ⟨bl, H + 2, none⟩ = some (.string (RS ca.2)) /\ w'.cell? ⟨bl, H + j1 * 3, none⟩ = some (.string (RS cb.1.1)) /\ w'.cell? ⟨bl, H + j1 * 3 + 1, none⟩ = some (.string (RS cb.1.2)) /\ w'.cell? ⟨bl, H + j1 * 3 + 2, none⟩ = some (.string (RS cb.2)) /\ w'.cell? ⟨bl, H + j2 * 3, none⟩ = some (.string (RS cd.1.1)) /\ w'.cell? ⟨bl, H + j2 * 3 + 1, none⟩ = some (.string (RS cd.1.2)) /\ w'.cell? ⟨bl, H + j2 * 3 + 2, none⟩ = some (.string (RS cd.2))) := fun w' hb => ⟨(zcq hb K x0 :), (zcq hb K x1 :), (zcq hb K x2 :), (zcq hb K x3 :), (zcq hb K x4 :), (zcq hb K x5 :), (zcq hb K x6 :), (zcq hb K x7 :), (zcq hb K x8 :)⟩;have h0 : Below wr.heap.size wr wr.drew := bdN wr 1;clear h5 z2 hy;go_upto_region 5 with fail;go_cut [7, 8, 9] (fun s7 s8 s9 wx => ∃ b5 b6 b7 : Nat, s7 = .pointer (some ⟨b5, 0, none⟩) /\ s8 = .pointer (some ⟨b6, 0, none⟩) /\ s9 = .pointer (some ⟨b7, 0, none⟩) /\ CorB wx b5 ca /\ CorB wx b6 cb /\ CorB wx b7 cd /\ Below wr.heap.size wr wx)
   case first =>
    go_region_held3 (fun w' => w'.cell? ⟨bl, H, none⟩ = some (.string (RS ca.1.1)) /\ w'.cell? ⟨bl, H + 1, none⟩ = some (.string (RS ca.1.2)) /\ w'.cell? ⟨bl, H + 2, none⟩ = some (.string (RS ca.2)) /\ w'.cell? ⟨bl, H + j1 * 3, none⟩ = some (.string (RS cb.1.1)) /\ w'.cell? ⟨bl, H + j1 * 3 + 1, none⟩ = some (.string (RS cb.1.2)) /\ w'.cell? ⟨bl, H + j1 * 3 + 2, none⟩ = some (.string (RS cb.2)) /\ w'.cell? ⟨bl, H + j2 * 3, none⟩ = some (.string (RS cd.1.1)) /\ w'.cell? ⟨bl, H + j2 * 3 + 1, none⟩ = some (.string (RS cd.1.2)) /\ w'.cell? ⟨bl, H + j2 * 3 + 2, none⟩ = some (.string (RS cd.2)))
     ((refine HS.out _ ?_; repeat (first | with_reducible exact h0 | with_reducible exact Below.refl _ _ | with_reducible refine Below.drew ?_ | ((with_reducible refine Below.setCell ?_ ?_ _); rotate_left; (first | omega | (simp <;> omega))) | ((with_reducible refine Below.alloc ?_ ?_ _); rotate_left; (first | exact Nat.le_refl _ | omega | (simp <;> omega))))))
     (first | fail)
    all_goals
     go_wp2_with fail;go_meet;refine ⟨_, _, _, rfl, rfl, rfl, ?_, ?_, ?_, ?_⟩
     ·repeat (first | with_reducible refine CorB.drew ?_ | exact CorB.new _ ca _ _ (by first | rfl | simp) | with_reducible refine CorB.alloc ?_ _)
     ·repeat (first | with_reducible refine CorB.drew ?_ | exact CorB.new _ cb _ _ (by first | rfl | simp) | with_reducible refine CorB.alloc ?_ _)
     ·repeat (first | with_reducible refine CorB.drew ?_ | exact CorB.new _ cd _ _ (by first | rfl | simp) | with_reducible refine CorB.alloc ?_ _)
     ·repeat (first | with_reducible exact h0 | with_reducible exact Below.refl _ _ | with_reducible refine Below.drew ?_ | ((with_reducible refine Below.setCell ?_ ?_ _); rotate_left; (first | omega | (simp <;> omega))) | ((with_reducible refine Below.alloc ?_ ?_ _); rotate_left; (first | exact Nat.le_refl _ | omega | (simp <;> omega))))
   case rest =>
   obtain ⟨b5, b6, b7, rfl, rfl, rfl, ⟨a0, a1, x⟩, ⟨b0, b1, t⟩, ⟨d0, d1, s⟩, zc⟩ := hcut;have G : b5 < wc.heap.size := World.block_lt_of_cell? wc _ a0;have d : b6 < wc.heap.size := World.block_lt_of_cell? wc _ b0;have E : b7 < wc.heap.size := World.block_lt_of_cell? wc _ d0;have hR := zbt J zc;have hx : Good wc.drew := (Q.below hR).drewN 1;obtain ⟨⟨Z, Y⟩, X⟩ := ca;obtain ⟨⟨O, N⟩, S⟩ := cb;obtain ⟨⟨M, L⟩, R⟩ := cd;dsimp only [SzP] at a0 a1 x b0 b1 t d0 d1 s za zb zd;unfold areaQ at y;dsimp only at y;have hM := Lib.hid fun w Q => rSa O Z k hk (by omega) zb.1.1 za.1.1 w Q
   have hN := Lib.hid fun w Q => rSa N Y k hk (by omega) zb.1.2 za.1.2 w Q
   have hO := Lib.hid fun w Q => rSa M Z k hk (by omega) zd.1.1 za.1.1 w Q
   have hP := Lib.hid fun w Q => rSa L Y k hk (by omega) zd.1.2 za.1.2 w Q
   have s1 : Sz (2 * k + 1) (O - Z) := (zb.1.1.sub za.1.1).mono (by omega);have s2 : Sz (2 * k + 1) (N - Y) := (zb.1.2.sub za.1.2).mono (by omega);have s3 : Sz (2 * k + 1) (M - Z) := (zd.1.1.sub za.1.1).mono (by omega);have s4 : Sz (2 * k + 1) (L - Y) := (zd.1.2.sub za.1.2).mono (by omega);have z6 := Lib.hid fun w Q => rMa (O - Z) (L - Y) (2 * k + 1) (by omega) (by omega) s1 s4 w Q
   have z7 := Lib.hid fun w Q => rMa (N - Y) (M - Z) (2 * k + 1) (by omega) (by omega) s2 s3 w Q
   have s5 : Sz (4 * k + 2) ((O - Z) * (L - Y)) := (s1.mul s4).mono (by omega);have s6 : Sz (4 * k + 2) ((N - Y) * (M - Z)) := (s2.mul s3).mono (by omega);have z4 := Lib.hid fun w Q => rSa ((O - Z) * (L - Y)) ((N - Y) * (M - Z)) (4 * k + 2) (by omega) (by omega) s5 s6 w Q
   have s7 : Sz (8 * k + 5) ((O - Z) * (L - Y) - (N - Y) * (M - Z)) := (s5.sub s6).mono (by omega);have hL : Hid (∀ (v : Value) (w : World), RdQ w v [X, S, R] -> Good w -> _) := fun v w hr Q => rb0 [X, S, R] k hk (by simp; omega) (by
    intro q hq;simp only [List.mem_cons, List.not_mem_nil, or_false] at hq;rcases hq with rfl | rfl | rfl
    ·exact za.2
    ·exact zb.2
    ·exact zd.2) v w hr Q
   rw [show [X, S, R].foldl (·+ ·) 0 = X + S + R by simp only [List.foldl_cons, List.foldl_nil]; grind] at hL;have s8 : Sz (3 * k + 2) (X + S + R) := ((za.2.add zb.2).add zd.2).mono (by omega);have hJ := Lib.hid fun w Q => rMa (X + S + R) (1 / 3) (3 * k + 2) (by omega) (by omega) s8 (hG.out.mono (by omega)) w Q
   have s9 : Sz (3 * k + 3) ((X + S + R) * (1 / 3)) := (s8.mul hG.out).mono (by omega);have z5 := Lib.hid fun w Q => rSa ((X + S + R) * (1 / 3)) z (3 * k + 3) (by omega) (by omega) s9 (HZ.out.mono (by omega)) w Q
   have hC : Sz (4 * k + 4) ((X + S + R) * (1 / 3) - z) := (s9.sub HZ.out).mono (by omega);have hK := Lib.hid fun w Q => rMa ((O - Z) * (L - Y) - (N - Y) * (M - Z)) (1 / 2) (8 * k + 5) (by omega) (by omega) s7 (hF.out.mono (by omega)) w Q
   have hD : Sz (8 * k + 6) (((O - Z) * (L - Y) - (N - Y) * (M - Z)) * (1 / 2)) := (s7.mul hF.out).mono (by omega);have z8 := Lib.hid fun w Q => rMa (((O - Z) * (L - Y) - (N - Y) * (M - Z)) * (1 / 2)) ((X + S + R) * (1 / 3) - z) (8 * k + 6) (by omega) (by omega) hD (hC.mono (by omega)) w Q
   have hE := Lib.hid fun w Q => rAa (fanI l z n) (((O - Z) * (L - Y) - (N - Y) * (M - Z)) * (1 / 2) * ((X + S + R) * (1 / 3) - z)) ((14 * k + 14) * 6 + 1) (by omega) (by omega) (zf.mono (by have := Nat.mul_le_mul_left (14 * k + 14) (show n <= 6 by omega); omega)) ((hD.mul hC).mono (by omega)) w Q
   rw [Rt1] at hJ;rw [Rh1] at hK;obtain ⟨zB, hs⟩ : ∃ r, r = fanI l z n + ((O - Z) * (L - Y) - (N - Y) * (M - Z)) * (1 / 2) * ((X + S + R) * (1 / 3) - z) := ⟨_, rfl⟩;rw [<- hs] at y hE;clear hs za zb zd zf s1 s2 s3 s4 s5 s6 s7 s8 s9 hC hD;generalize ((O - Z) * (L - Y) - (N - Y) * (M - Z)) * (1 / 2) * ((X + S + R) * (1 / 3) - z) = r1 at *;generalize ((O - Z) * (L - Y) - (N - Y) * (M - Z)) * (1 / 2) = r2 at *;generalize (O - Z) * (L - Y) - (N - Y) * (M - Z) = r3 at *;generalize (X + S + R) * (1 / 3) - z = r4 at *;generalize (X + S + R) * (1 / 3) = r5 at *;generalize X + S + R = r6 at *;generalize (O - Z) * (L - Y) = r7 at *;generalize (N - Y) * (M - Z) = r8 at *;generalize O - Z = r9 at *;generalize L - Y = r10 at *;generalize N - Y = r11 at *;generalize M - Z = r12 at *;clear x0 x1 x2 x3 x4 x5 x6 x7 x8 HS h0;go_wp2_with fail;go_region_held3 (fun w' => w'.cell? ⟨b5, 0, none⟩ = some (.string (RS Z)) /\ w'.cell? ⟨b5, 1, none⟩ = some (.string (RS Y)) /\ w'.cell? ⟨b6, 0, none⟩ = some (.string (RS O)) /\ w'.cell? ⟨b6, 1, none⟩ = some (.string (RS N)))
    (first | exact ⟨a0, a1, b0, b1⟩ | exact ⟨p_1_0, p_1_1, p_1_2, p_1_3⟩ | exact ⟨p_2_0, p_2_1, p_2_2, p_2_3⟩)
    (first
    | (go_at_call 23; refine (hN.out _ hA).mono ?_; rintro e a ⟨_, rfl, rfl, C⟩
       have p_2_0 := zct C p_1_0;have p_2_1 := zct C p_1_1;have p_2_2 := zct C p_1_2;have p_2_3 := zct C p_1_3;have zi := C.size;have z3 := hA.below C)
    | (go_at_call 23; refine (hM.out _ hx).mono ?_; rintro e zj ⟨_, rfl, rfl, D⟩
       have p_1_0 := zct D a0;have p_1_1 := zct D a1;have p_1_2 := zct D b0;have p_1_3 := zct D b1;have zh : wc.heap.size <= zj.heap.size := D.size;have hA := hx.below D))
   have pB : Below wc.heap.size wc a := zbt (zbt (bdN wc 1) D) C;have hS := zbt hR pB;have h6 := zcq pB G a0;have h9 := zcq pB G a1;have ht := zcq pB G x;have hu := zcq pB d t;have ha := zcq pB E d0;have hc := zcq pB E d1;have hw := zcq pB E s;have m : b5 < a.heap.size := Nat.lt_of_lt_of_le G pB.size;have g : b6 < a.heap.size := Nat.lt_of_lt_of_le d pB.size;have f : b7 < a.heap.size := Nat.lt_of_lt_of_le E pB.size;have o : Good a.drew := z3.drewN 1;obtain ⟨V, hV⟩ := zex a;rw [<- hV] at hS h6 h9 ht hu ha hc hw m g f o ⊢;clear hV a0 a1 x b0 b1 t d0 d1 s pB hA z3 D C zh zi p_1_0 p_1_1 p_1_2 p_1_3 p_2_0 p_2_1 p_2_2 p_2_3 G d E hM hN;go_wp2_with fail;go_region_held3 (fun w' => w'.cell? ⟨b5, 0, none⟩ = some (.string (RS Z)) /\ w'.cell? ⟨b5, 1, none⟩ = some (.string (RS Y)) /\ w'.cell? ⟨b7, 0, none⟩ = some (.string (RS M)) /\ w'.cell? ⟨b7, 1, none⟩ = some (.string (RS L)))
    (first | exact ⟨h6, h9, ha, hc⟩ | exact ⟨q_1_0, q_1_1, q_1_2, q_1_3⟩ | exact ⟨q_2_0, q_2_1, q_2_2, q_2_3⟩)
    (first
    | (go_at_call 23; refine (hP.out _ hB).mono ?_; rintro e h4 ⟨_, rfl, rfl, A⟩
       have q_2_0 := zct A q_1_0;have q_2_1 := zct A q_1_1;have q_2_2 := zct A q_1_2;have q_2_3 := zct A q_1_3;have zm := A.size;have zk := hB.below A)
    | (go_at_call 23; refine (hO.out _ o).mono ?_; rintro e zn ⟨_, rfl, rfl, B⟩
       have q_1_0 := zct B h6;have q_1_1 := zct B h9;have q_1_2 := zct B ha;have q_1_3 := zct B hc;have zl : V.heap.size <= zn.heap.size := B.size;have hB := o.below B))
   have qB : Below V.heap.size V h4 := zbt (zbt (bdN V 1) B) A;have hT := zbt hS qB;have x := zcq qB m ht;have t := zcq qB g hu;have s := zcq qB f hw;have G : b5 < h4.heap.size := Nat.lt_of_lt_of_le m qB.size;have d : b6 < h4.heap.size := Nat.lt_of_lt_of_le g qB.size;have E : b7 < h4.heap.size := Nat.lt_of_lt_of_le f qB.size;obtain ⟨U, hU⟩ : ∃ V, V = h4 := ⟨_, rfl⟩;rw [<- hU] at hT x t s G d E ⊢;clear hU h6 h9 ht hu ha hc hw qB hB zk B A zl zm q_1_0 q_1_1 q_1_2 q_1_3 q_2_0 q_2_1 q_2_2 q_2_3 m g f hO hP hx o;have hW := hT;go_wp2_with fail;refine zR (z6.out _ (Q.below hW)) fun y1 hy1 => ?_;have hX := zbt hW hy1;go_wp2_with fail;refine zR (z7.out _ (Q.below hX)) fun y2 hy2 => ?_;have hd := zbt hX hy2;go_wp2_with fail;refine zR (z4.out _ (Q.below hd)) fun y3 hy3 => ?_;have he := zbt hd hy3;have s1 := G;have s2 := d;have s3 := E;have x := zcq hy1 s1 x;have t := zcq hy1 s2 t;have s := zcq hy1 s3 s;have s1 := Nat.le_trans s1 hy1.size;have s2 := Nat.le_trans s2 hy1.size;have s3 := Nat.le_trans s3 hy1.size;have x := zcq hy2 s1 x;have t := zcq hy2 s2 t;have s := zcq hy2 s3 s;have s1 := Nat.le_trans s1 hy2.size;have s2 := Nat.le_trans s2 hy2.size;have s3 := Nat.le_trans s3 hy2.size;have x := zcq hy3 s1 x;have t := zcq hy3 s2 t;have s := zcq hy3 s3 s;go_wp2_with fail;have hY := he.alloc he.size (.cells #[.string (RS X), .string (RS S), .string (RS R)] 55);refine zR (hL.out _ _ (RdQ.fresh y3 [X, S, R] _ _ rfl (by simp) 3 rfl _ rfl) (Q.below hY)) fun y4 hy4 => ?_;have hf := zbt hY hy4;clear x t s s1 s2 s3;go_wp2_with fail;refine zR (hJ.out _ (Q.below hf)) fun y5 hy5 => ?_;have hh := zbt hf hy5;go_wp2_with fail;refine zR (z5.out _ (Q.below hh)) fun y6 hy6 => ?_;have hj := zbt hh hy6;go_wp2_with fail;refine zR (hK.out _ (Q.below hj)) fun y7 hy7 => ?_;have hm := zbt hj hy7;go_wp2_with fail;refine zR (z8.out _ (Q.below hm)) fun y8 hy8 => ?_;have ho := zbt hm hy8;go_wp2_with fail;refine zR (hE.out _ (Q.below ho)) fun y9 hy9 => ?_;have hQ := zbt ho hy9;go_wp2_with fail;go_roundw
   case rel => exact ⟨n + 1, j2, rfl, hH.out, by omega, by rw [y.out], hQ⟩
   case measure =>
    have h7 := HJ.out;have h8 := hH.out;simp [RowKit.intOf]; omega
  ·have zw : ¬ (j2 : Int) < (l.length : Int) := by omega
   have HI : Hid (fanI l z n = integ l z) := by unfold Hid integ; rw [show n = l.length - 2 by omega]
   rw [HI.out];go_wp2_with fail;go_ret;exact ⟨_, rfl, rfl, J⟩
theorem cS2 {a b : Cor} {z : Rat} {k m : Nat} (Z : SzP k a.1 /\ Sz k a.2) (Y : SzP k b.1 /\ Sz k b.2) (U : Sz m z) : SzP (6 * k + m + 4) (cKK a b z).1 := by
 have V := Z.2.sub U;have X := V.div (Z.2.sub Y.2) (by omega);unfold cKK towQ;rw [show (a.2 - z) - (b.2 - z) = a.2 - b.2 by grind];exact ⟨(Z.1.1.add (X.mul (Y.1.1.sub Z.1.1))).mono (by omega), (Z.1.2.add (X.mul (Y.1.2.sub Z.1.2))).mono (by omega)⟩
theorem cq0 {a b : Cor} {z : Rat} {k m : Nat} (Z : SzP k a.1 /\ Sz k a.2) (V : SzP k b.1 /\ Sz k b.2) (X : Sz m z) : ∀ c ∈ cutS a b z, SzP (6 * k + m + 4) c.1 /\ Sz (k + m) c.2 := by
 intro c Y;unfold cutS at Y;rcases List.mem_append.1 Y with h | h
 ·split at h
  ·simp at h; subst h
   exact ⟨⟨Z.1.1.mono (by omega), Z.1.2.mono (by omega)⟩, Z.2.mono (by omega)⟩
  ·simp at h
 ·split at h
  ·simp at h; subst h
   exact ⟨cS2 Z V X, X.mono (by omega)⟩
  ·simp at h
theorem cTS {c0 c1 c2 : Cor} {z : Rat} {k m : Nat} (Y : SzP k c0.1 /\ Sz k c0.2) (X : SzP k c1.1 /\ Sz k c1.2) (V : SzP k c2.1 /\ Sz k c2.2) (Z : Sz m z) : ∀ (i : Nat), ∀ c ∈ cutTo c0 c1 c2 z i, SzP (6 * k + m + 4) c.1 /\ Sz (k + m) c.2
 | 0 => fun c hc => by simp [cutTo] at hc
 | i + 1 => fun c hc => by
   unfold cutTo at hc;rcases List.mem_append.1 hc with h | h
   ·exact cTS Y X V Z i c h
   ·refine cq0 ?_ ?_ Z c h
    ·unfold corA; split <;> assumption
    ·unfold corB; split <;> assumption
theorem pTS {P : List PtQ} {F : List Rat} {tr : Tri} {z : Rat} {k m : Nat} (Y : ∀ x ∈ idxOf tr, SzP k (ptI P x) /\ Sz k (hI F x)) (X : Sz m z) (c : Cor) (Z : c ∈ partT P F z tr) : SzP (6 * k + m + 4) c.1 /\ Sz (k + m) c.2 := by
 unfold partT cutL at Z;split at Z
 ·exact cTS (Y _ (by simp [idxOf])) (Y _ (by simp [idxOf])) (Y _ (by simp [idxOf])) X 3 c Z
 ·simp at Z
theorem pTl (P : List PtQ) (F : List Rat) (z : Rat) (Z : Tri) : (partT P F z Z).length <= 6 := cLl _ _ _ _
theorem fd0 (w : World) (o j p : Value) (P : List PtQ) (T : List Tri) (k : Nat) (F : List Rat) (h : FieldIn w o j p P T k F) (z : Rat) (m n : Nat) (B : Sz m z) (G : 6 * k + m + 4 <= 200) (hn : n <= 20000) (E : (14 * (6 * k + m + 4) + 14) * 4 + 1 <= n) (hV : ∀ t, t <= T.length -> Sz n (volTo P T F z t)) (y : Good w) :
 Calls Tryz.prog 105 #[.agg #[o, j], p, .string (RS z)] w (Ret (fun r _ => r = .string (RS (volTo P T F z T.length))) w) := by
 have HH := Lib.hid h;have h5 := h.m.kpos;have X : Hid (∀ tr ∈ T, ∀ x ∈ idxOf tr, SzP k (ptI P x) /\ Sz k (hI F x)) := fun tr htr x hx => by
  obtain ⟨h0, h1⟩ := h.m.idx tr htr x hx;obtain ⟨q, rfl⟩ : ∃ q : Nat, x = (q : Int) := ⟨x.toNat, by omega⟩;rw [pIn P q (by omega), hh0 F q (by have := h.fl; omega)];exact ⟨h.m.sz _ (List.getElem_mem _), h.fs _ (List.getElem_mem _)⟩
 have h2 : Hid (∀ (i : Nat) (hi : i < T.length) (w' : World), FieldIn w' o j p P T k F -> Good w' -> _) := fun i hi w' h' hg' => cd0 w' o j p P T k F h'.p h'.t h'.m.toMeshIn h'.f h'.fl i i rfl hi (triI T i) (tIn T i hi) hg';have O : Hid (∀ (i : Nat) (hi : i < T.length) (w' : World), Good w' -> _) := fun i hi w' hg' => pi0 P F (triI T i) z k m h5 (by omega) (X.out (triI T i) (by rw [tIn T i hi]; exact List.getElem_mem hi)) B w' hg'
 have R : ∀ (i : Nat) (hi : i < T.length), ∀ c ∈ partT P F z (triI T i), SzP (6 * k + m + 4) c.1 /\ Sz (6 * k + m + 4) c.2 := fun i hi c hc => by
  have := pTS (X.out (triI T i) (by rw [tIn T i hi]; exact List.getElem_mem hi)) B c hc;exact ⟨this.1, this.2.mono (by omega)⟩
 have N : Hid (∀ (i : Nat) (hi : i < T.length) (v : Value) (w' : World), RdK w' v (partT P F z (triI T i)) -> Good w' -> _) := fun i hi v w' hv hg' => id0 w' v (partT P F z (triI T i)) z (6 * k + m + 4) (by omega) G (pTl _ _ _ _) (R i hi) (B.mono (by omega)) hv hg'
 have M : Hid (∀ (i : Nat) (hi : i < T.length), Sz n (integ (partT P F z (triI T i)) z)) := fun i hi => by
  have := fIS (l := partT P F z (triI T i)) (z := z) (k := 6 * k + m + 4) (by omega) (R i hi) (B.mono (by omega)) ((partT P F z (triI T i)).length - 2);refine this.mono (Nat.le_trans (Nat.add_le_add_right (Nat.mul_le_mul_left _ ?_) 1) E);have := pTl P F z (triI T i);omega
 have g : Hid (∀ (i : Nat) (hi : i < T.length) (w' : World), Good w' -> _) := fun i hi w' hg' => rAa (volTo P T F z i) (integ (partT P F z (triI T i)) z) n (by omega) hn (hV i (by omega)) (M.out i hi) w' hg'
 have h4 : Hid (∀ i, volTo P T F z (i + 1) = volTo P T F z i + integ (partT P F z (triI T i)) z) := fun i => rfl;have h6 : volTo P T F z 0 = 0 := rfl;obtain ⟨pp, cp, pt, ct, pf, cf, rfl, rfl, rfl⟩ := h.open;have h8 : T.length <= 800 := h.m.tlen;obtain ⟨sz, C⟩ : ∃ s, s = RS z := ⟨_, rfl⟩;rw [<- C] at O N ⊢;clear h B G hn E hV R M C X;generalize volTo P T F z = VT at *;go_enter Tryz.func105, Tryz.ntmps105;go_wp2_with fail;obtain ⟨W, A⟩ := zex (w.alloc (.cells #[.slice pp P.length cp, .slice pt T.length ct] 41));have hB : Below w.heap.size w W := by rw [A]; exact zal _ _
 have b0 : BoxN W w.heap.size 41 [.slice pp P.length cp, .slice pt T.length ct] := by rw [A]; exact BoxN.new _ _ _ _ rfl
 rw [<- A];clear A;obtain ⟨x0, x1⟩ := zk2 b0;try go_wp2_with fail
 clear x0 x1;go_loopw [7, 12] (fun t7 t12 wr => ∃ i : Nat, t12 = .int .i64 i /\ i <= T.length /\ t7 = .string (RS (VT i)) /\ Below W.heap.size W wr) (fun _ t12 _ => T.length - (RowKit.intOf t12).toNat)
 case atStart => exact ⟨0, rfl, Nat.zero_le _, by rw [h6, RS_zero], Below.refl _ _⟩
 case round =>
  obtain ⟨i, rfl, h9, rfl, S⟩ := hrel;have V := zbt hB S;rcases Nat.lt_or_ge i T.length with h | h
  ·have ha : (i : Int) < (T.length : Int) := by omega
   have b1 := b0.bl S;obtain ⟨x0, x1⟩ := zk2 b1;have f : Hid (∀ w', Below w.heap.size w w' -> _) := fun w' hb => h2.out i h w' (HH.out.below hb) (y.below hb);have d : Hid (∀ w', Good w' -> _) := fun w' hg' => O.out i h w' hg';have b : Hid (∀ (v : Value) (w' : World), RdK w' v (partT P F z (triI T i)) -> Good w' -> _) := fun v w' hv hg' => N.out i h v w' hv hg';have a : Hid (∀ w', Good w' -> _) := fun w' hg' => g.out i h w' hg';have h3 := Lib.hid (h4.out i);go_wp2_with fail;refine zR (f.out wr V) fun w1 hb1 => ?_;have K := zbt S hb1;have Z := zbt V hb1;clear x0 x1 b1 hb1;go_wp2_with fail;refine (d.out w1 (y.below Z)).mono ?_;rintro e w2 ⟨v2, rfl, D, U⟩;have J := zbt K U;have Y := zbt Z U;have Q : RdK w2 v2 (partT P F z (triI T i)) := RdC.of_owns D.1;obtain ⟨pq, cq, rfl, -, -, -⟩ := Q.open;clear U D;go_wp2_with fail;refine zR (b.out _ w2 Q (y.below Y)) fun w3 hb3 => ?_;have I := zbt J hb3;have L := zbt Y hb3;clear hb3 Q;go_wp2_with fail;refine zR (a.out w3 (y.below L)) fun w4 hb4 => ?_;have H := zbt I hb4;clear hb4;go_wp2_with fail;go_roundw
   case rel => exact ⟨i + 1, by go_num, by omega, by rw [h3.out], H⟩
   case measure => simp [RowKit.intOf]; omega
  ·have h7 : ¬ (i : Int) < (T.length : Int) := by omega
   have HI : Hid (i = T.length) := by unfold Hid; omega
   rw [HI.out];go_wp2_with fail;go_ret;exact ⟨_, rfl, rfl, V⟩
theorem cto (w : World) (z y vf vg : Value) (P : List PtQ) (T : List Tri) (k : Nat) (F G : List Rat) (h : FieldIn w z y vf P T k F) (h2 : FieldIn w z y vg P T k G) (b : Nat) (M : w.cell? ⟨b, 0, none⟩ = some vf) (Y : w.cell? ⟨b, 1, none⟩ = some vg) (hg : Good w) :
 Calls Tryz.prog 51 #[.agg #[z, y], .slice (some ⟨b, 0, none⟩) 2 2] w (Ret (fun r _ => r = .int .i64 0) w) := by
 have s : Hid (∀ j : Nat, j < 2 -> ∃ (Q : Option Addr) (N : Nat) (l : List Rat), w.cell? ⟨b, j, none⟩ = some (.slice Q P.length N) /\ l.length = P.length /\ (l ≠ [] -> ∃ O off, Q = some ⟨O, off, none⟩ /\ O < w.heap.size /\ ∀ i (hi : i < l.length), w.cell? ⟨O, off + i, none⟩ = some (.string (RS l[i]))) /\ (∀ q ∈ l, (RS q).size < 1000000000 /\ rQQ (RS q).data.toList = true)) := fun j hj => by
  have key : ∀ (v : Value) (L : List Rat), FieldIn w z y v P T k L -> w.cell? ⟨b, j, none⟩ = some v -> ∃ (Q : Option Addr) (N : Nat) (l : List Rat), w.cell? ⟨b, j, none⟩ = some (.slice Q P.length N) /\ l.length = P.length /\ (l ≠ [] -> ∃ O off, Q = some ⟨O, off, none⟩ /\ O < w.heap.size /\ ∀ i (hi : i < l.length), w.cell? ⟨O, off + i, none⟩ = some (.string (RS l[i]))) /\ (∀ q ∈ l, (RS q).size < 1000000000 /\ rQQ (RS q).data.toList = true) := fun v L hL hv => by
   obtain ⟨Q, N, rfl, -, -, hr⟩ := hL.f.open;rw [hL.fl] at hv;refine ⟨Q, N, L, hv, hL.fl, hr, fun q hq => ⟨?_, ?_⟩⟩
   ·have := (hL.fs q hq).size hL.m.kpos; have := hL.m.klim2; omega
   ·rw [Rlt]; exact rQR ((hL.fs q hq).mono (by have := hL.m.klim2; omega))
  rcases (by omega : j = 0 \/ j = 1) with rfl | rfl
  ·exact key vf F h M
  ·exact key vg G h2 Y
 have HP := Lib.hid h.p;have HT := Lib.hid h.t;have HM := Lib.hid h.m;have I := World.block_lt_of_cell? w _ M;obtain ⟨pp, cp, pt, ct, Q, N, rfl, rfl, rfl⟩ := h.open;have h5 := h.m.plen;dsimp only at I;clear h h2 M Y;go_enter Tryz.func51, Tryz.ntmps51;go_wp2_with fail;obtain ⟨m, R⟩ := zex (w.alloc (.cells #[.slice pp P.length cp, .slice pt T.length ct] 41));have X : Below w.heap.size w m := by rw [R]; exact zal _ _
 have b2 : BoxN m w.heap.size 41 [.slice pp P.length cp, .slice pt T.length ct] := by rw [R]; exact BoxN.new _ _ _ _ rfl
 rw [<- R];clear R;refine zR (ca0 m _ _ P T k (RdC.below HP.out X) (RdC.below HT.out X) HM.out (hg.below X)) fun w1 Y => ?_;have f : Below w.heap.size w w1 := zbt X Y;have b3 := b2.bl Y;clear Y X b2;go_wp2_with fail;go_loopw [18] (fun t18 wr => ∃ j : Nat, j <= 2 /\ t18 = .int .i64 (j : Int) /\ Below w1.heap.size w1 wr) (fun t18 _ => 2 - (RowKit.intOf t18).toNat)
 case atStart => exact ⟨0, by omega, rfl, Below.refl _ _⟩
 case round =>
  obtain ⟨j, hj, rfl, g⟩ := hrel;have S : Below w.heap.size w wr := zbt f g;rcases Nat.lt_or_ge j 2 with E | E
  ·obtain ⟨Q, N, l, Z, D, B, A⟩ := s.out j E
   have b4 := b3.bl g;have u0 := b4.cell 0 rfl;have u1 := zcq S I Z;have h1 : (j : Int) < 2 := by omega
   have o := Lib.hid B;have n := Lib.hid A;have t := Lib.hid S;have h3 : l.length <= P.length := by omega
   have p := Lib.hid D;have h4 : ((P.length : Int) != (P.length : Int)) = false := by simp
   clear Z B A D S;go_wp2_with fail;obtain ⟨wo, a⟩ := zex (wr : World);subst a;go_loopw [30] (fun t30 wr => ∃ (i : Nat), t30 = .int .i64 i /\ i <= P.length /\ Below wo.heap.size wo wr) (fun t30 _ => P.length - (RowKit.intOf t30).toNat)
   case atStart => exact ⟨0, rfl, Nat.zero_le _, Below.refl _ _⟩
   case round =>
    obtain ⟨i, rfl, hi, V⟩ := hrel;have J := zbt t.out V;rcases Nat.lt_or_ge i P.length with C | C
    ·have U : i < l.length := by have := p.out; omega
     obtain ⟨O, off, rfl, c, Z⟩ := o.out (by intro e; rw [e] at U; simp at U);have hc := zcq J c (Z i U);have K := n.out l[i] (List.getElem_mem U);obtain ⟨x, hx⟩ := zex (RS l[i]);rw [<- hx] at hc K;have H := hg.below J;have h0 : (i : Int) < (P.length : Int) := by omega
     have HZ := Lib.hid K;clear hx Z U K;go_wp2_with fail;refine zR (cQa x HZ.out.1 _ H) fun w2 hb2 => ?_;have d := zbt V hb2;rw [HZ.out.2, show eNm true = 0 from rfl];clear hb2 H;go_wp2_with fail;go_roundw
     case rel => exact ⟨i + 1, by go_num, C, d⟩
     case measure => simp [RowKit.intOf]; omega
    ·go_wp2_with fail
     go_roundw
     case rel => exact ⟨j + 1, by omega, by go_num, (zbt g V)⟩
     case measure => simp [RowKit.intOf]; omega
  ·obtain rfl : j = 2 := by omega
   rw [show ((2 : Nat) : Int) = 2 from rfl];go_wp2_with fail;go_ret;exact ⟨_, rfl, rfl, S⟩
end Go.Proofs.YtmcbeajdloaliaaGreatDoor
namespace Go.Proofs.YtmcbeajdloaliaaGreatDoor
open Go
section
variable {P : Program} {ops : Array Oper} {Q : Exit -> Act -> World -> Prop} {md : Region.Mode} {S : Array Bool -> World -> Prop}
def AnyL (P : Program) (md : Region.Mode) (ops : Array Oper) (Q : Exit -> Act -> World -> Prop) (S : Array Bool -> World -> Prop) : Nat -> Array Bool -> Act -> World -> Prop
 | 0, l, a, w => Region.ready md ops l = [] /\ Q .normal a w
 | n + 1, l, a, w => (Region.ready md ops l = [] -> Q .normal a w) /\ ∀ i ∈ Region.ready md ops l, wpOp P ops Q i (fun a' w' => S (l.setIfInBounds i true) w' /\ AnyL P md ops Q S n (l.setIfInBounds i true) a' w') a w
theorem AnyL.any : ∀ (n : Nat) (l : Array Bool) (a : Act) (w : World), AnyL P md ops Q S n l a w -> wpAny P md ops Q n l a w
 | 0, _, _, _, h => h
 | n + 1, _, _, _, h => ⟨h.1, fun i hi => wpOp_mono (fun a' w' h' => AnyL.any n _ a' w' h'.2) (h.2 i hi)⟩
theorem AnyL.region {id : Nat} {a : Act} {w : World} (Z : P.follows .mixedOrders = true)
 (h : AnyL P .any ops Q S ops.size (Array.replicate ops.size false) a w.drew) : (Code.region id ops true).wp P Q a w :=
 wp_region_any Z (AnyL.any _ _ _ _ h)
theorem AnyL.first {i : Nat} {oi : Oper} {v : Value} {C : World -> Prop} {R : Array Bool -> Prop} (K : ops[i]? = some oi) (I : Region.noSelect ops = true)
 (B : ∀ c a w, Q (.panic c) (a.put oi.dst v) w -> Q (.panic c) a w)
 (A : ∀ l j, R l -> j ∈ Region.ready md ops l -> l.getD i true = false -> j ≠ i -> R (l.setIfInBounds j true))
 (E : ∀ l w, R l -> S (l.setIfInBounds i true) w -> C w) (D : ∀ l w, R l -> S (l.setIfInBounds i true) w -> S l w) :
 ∀ (n : Nat) (l : Array Bool) (a : Act) (w : World),
  (∀ j O, ops[j]? = some O -> j ≠ i -> l.getD j true = false -> (∀ e ∈ O.after, Region.binds md e = true -> e.on ≠ i) -> oi.apart ops O = true) ->
  R l -> i ∈ Region.ready md ops l -> YieldsIf P ops C oi v a -> C w -> S (l.setIfInBounds i true) w ->
  AnyL P md ops Q S n (l.setIfInBounds i true) (a.put oi.dst v) w -> AnyL P md ops Q S (n + 1) l a w
 | 0, l, a, w, _, _, hr, hy, hc, hS, H => by
   refine ⟨fun h => (by rw [h] at hr; cases hr), fun j hj => ?_⟩;by_cases e : j = i
   ·subst e; exact hy.wpOp K hc ⟨hS, H⟩
   ·have := ready_mono hj e
    rw [H.1] at this;cases this
 | n + 1, l, a, w, hf, hRl, hr, hy, hc, hS, H => by
   refine ⟨fun h => (by rw [h] at hr; cases hr), fun j hj => ?_⟩;by_cases e : j = i
   ·subst e; exact hy.wpOp K hc ⟨hS, H⟩
   ·have Z := (mem_ready.1 hr).1
    obtain ⟨M, O, U, N⟩ := mem_ready.1 hj;have J : ∀ d ∈ O.after, Region.binds md d = true -> d.on ≠ i := fun d hd hb heq => by
     have Y := N d hd hb;rw [heq] at Y;rw [Array.getD_eq_getD_getElem?] at Y Z;cases hg : l[i]? with
     | none => rw [hg] at Y; cases Y
     | some b => rw [hg] at Y Z; simp at Y Z; rw [Y] at Z; cases Z
    have z := wpOp_putIf U (hf j O U e M J) (fun cs b => Region.noSelect_spec I i oi cs b K) (fun cs b => Region.noSelect_spec I j O cs b U) B hy (H.2 j (ready_mono hj e));have X := A l j hRl hj Z e;have V : (l.setIfInBounds i true).setIfInBounds j true = (l.setIfInBounds j true).setIfInBounds i true := Array.setIfInBounds_comm _ _ (Ne.symm e);refine wpOp_mono (fun a' w' h3 => ?_) z;obtain ⟨y, L, G⟩ := h3;rw [V] at L G;refine ⟨D _ _ X L, AnyL.first K I B A E D n _ a' w' (fun m om hom hmi hmu hmn => hf m om hom hmi ?_ hmn) X (ready_mono hr (Ne.symm e)) y (E _ _ X L) L G⟩;by_cases hjm : j = m
    ·subst hjm; exact M
    ·rw [getD_set_ne true hjm] at hmu; exact hmu
def Till (k : Nat) (A B : World -> Prop) (l : Array Bool) (w : World) : Prop := A w /\ (l.getD k true = false -> B w)
theorem AnyL.take {k i : Nat} {A B : World -> Prop} {oi : Oper} {v : Value} {n : Nat} {l : Array Bool} {a : Act} {w : World} (X : ops[i]? = some oi) (O : Region.noSelect ops = true)
 (U : Region.free md ops l i = true) (S : (Region.ready md ops l).contains i = true) (Z : i ≠ k) (V : ∀ c a w, Q (.panic c) (a.put oi.dst v) w -> Q (.panic c) a w)
 (hy : YieldsIf P ops A oi v a) (Y : Till k A B l w) (h : AnyL P md ops Q (Till k A B) n (l.setIfInBounds i true) (a.put oi.dst v) w) : AnyL P md ops Q (Till k A B) (n + 1) l a w := by
 refine AnyL.first (R := fun _ => True) (C := A) X O V (fun _ _ _ _ _ _ => trivial) (fun _ _ _ h => h.1) (fun l w _ h => ⟨h.1, fun hk => h.2 (by rw [getD_set_ne true Z]; exact hk)⟩) n l a w (Region.free_spec X U) trivial (by simpa using S) hy Y.1 ⟨Y.1, fun hk => Y.2 (by rw [getD_set_ne true Z] at hk; exact hk)⟩ h
theorem AnyL.take2 {k i : Nat} {A B : World -> Prop} {oi ok : Oper} {v : Value} {n : Nat} {l : Array Bool} {a : Act} {w : World} (M : ops[i]? = some oi) (H : Region.noSelect ops = true)
 (J : Region.free md ops l i = true) (I : (Region.ready md ops l).contains i = true) (Y : i ≠ k) (X : ops[k]? = some ok) (hw : (ok.after.any fun e => Region.binds md e && e.on == i) = true) (U : l.getD k true = false)
 (L : ∀ c a w, Q (.panic c) (a.put oi.dst v) w -> Q (.panic c) a w)
 (hy : YieldsIf P ops (fun w => A w /\ B w) oi v a) (S : Till k A B l w) (h : AnyL P md ops Q (Till k A B) n (l.setIfInBounds i true) (a.put oi.dst v) w) : AnyL P md ops Q (Till k A B) (n + 1) l a w := by
 obtain ⟨e, K, O⟩ := Array.any_eq_true'.1 hw;simp only [Bool.and_eq_true, beq_iff_eq] at O;refine AnyL.first (R := fun l => l.getD k true = false) (C := fun w => A w /\ B w) M H L (fun l j hR hj hun hji => ?_) (fun l w hR h => ⟨h.1, h.2 (by rw [getD_set_ne true Y]; exact hR)⟩)
  (fun l w _ h => ⟨h.1, fun X => h.2 (by rw [getD_set_ne true Y]; exact X)⟩) n l a w (Region.free_spec M J) U (by simpa using I) hy ⟨S.1, S.2 U⟩ ⟨S.1, fun X => S.2 (by rw [getD_set_ne true Y] at X; exact X)⟩ h
 by_cases hjk : j = k
 ·subst hjk
  obtain ⟨_, G, N, V⟩ := mem_ready.1 hj;obtain rfl : G = ok := Option.some.inj (N.symm.trans X);have Z := V e K O.1;rw [O.2] at Z;rw [Array.getD_eq_getD_getElem?] at Z hun;cases hg : l[i]? with
  | none => rw [hg] at Z; cases Z
  | some b => rw [hg] at Z hun; simp at Z hun; rw [Z] at hun; cases hun
 ·rw [getD_set_ne true hjk]; exact hR
theorem AnyL.one {i : Nat} {o : Oper} {n : Nat} {l : Array Bool} {a : Act} {w : World} (Z : Region.ready md ops l = [i]) (Y : ops[i]? = some o)
 (h : ∀ K' : Act -> World -> Prop, Shut (∀ a w, S (l.setIfInBounds i true) w -> (S (l.setIfInBounds i true) w -> AnyL P md ops Q S n (l.setIfInBounds i true) a w) -> K' a w) -> if Region.wanted o (yielded ops a.tmps) = true then Oper.wp P o a w K' Q else K' (a.put o.dst undef) w) :
 AnyL P md ops Q S (n + 1) l a w := by
 refine ⟨fun h0 => (by rw [h0] at Z; cases Z), fun j hj => ?_⟩;rw [Z] at hj;obtain rfl : j = i := by simpa using hj
 exact wpOp_step Y (fun K' hK => h K' (fun a w hS hW => hK a w ⟨hS, hW hS⟩))
theorem AnyL.done {l : Array Bool} {a : Act} {w : World} (Z : Region.ready md ops l = []) (h : Q .normal a w) : ∀ n, AnyL P md ops Q S n l a w
 | 0 => ⟨Z, h⟩
 | _ + 1 => ⟨fun _ => h, by rw [Z]; simp⟩
theorem zlk (i : Nat) {k : Nat} {A B : World -> Prop} {oi : Oper} {v : Value} {n : Nat} {l l0 : Array Bool} {a : Act} {w : World} (Z : Till k A B l0 w) (h : AnyL P md ops Q (Till k A B) n (l.setIfInBounds i true) (a.put oi.dst v) w)
 (Y : ops[i]? = some oi := by rfl) (hs : Region.noSelect ops = true := by kernel_rfl) (hf : Region.free md ops l i = true := by kernel_rfl) (hr : (Region.ready md ops l).contains i = true := by kernel_rfl) (hki : i ≠ k := by decide) (hl : l0.getD k true = false := by rfl)
 (hQ : ∀ c a w, Q (.panic c) (a.put oi.dst v) w -> Q (.panic c) a w := by exact fun _ _ _ h => h)
 (hy : YieldsIf P ops A oi v a := by exact Or.inl ⟨by rfl, by intro w h; (try dsimp only at h); first | (go_simp; done) | (go_simp; with_reducible rfl)⟩) : AnyL P md ops Q (Till k A B) (n + 1) l a w :=
 AnyL.take Y hs hf hr hki hQ hy ⟨Z.1, fun _ => Z.2 hl⟩ h
end
end Go.Proofs.YtmcbeajdloaliaaGreatDoor
namespace Go.Proofs.YtmcbeajdloaliaaGreatDoor
open Go.RowKit Go.Lib
theorem rSn (q : Rat) (h : q < 0) (w : World) :
 Calls Tryz.prog 14 #[.string (RS q)] w (Ret (fun v _ => v = .int .i64 (-1)) w) :=
 (ra0 q w).mono fun e w' ⟨v, he, hv, n, hw⟩ => ⟨v, he, by rw [hv, Int.sign_eq_neg_one_of_neg (num_lt_zero_iff.2 h)], hw ▸ bdN w n⟩
theorem rc0 (q : Rat) (h : ¬ q < 0) (w : World) :
 Calls Tryz.prog 14 #[.string (RS q)] w (Ret (fun v _ => ∃ z : Int, v = .int .i64 z /\ 0 <= z /\ z <= 1) w) :=
 (ra0 q w).mono fun e w' ⟨v, he, hv, n, hw⟩ => ⟨v, he, ⟨_, hv, by rw [sif, if_neg h]; split <;> decide⟩, hw ▸ bdN w n⟩
def RowQ (w : World) (g : Nat) (l : List Rat) : Prop := ∀ (a : Nat) (q : Rat), l[a]? = some q -> w.cell? ⟨g, a, none⟩ = some (.string (RS q)) /\ w.frozen? ⟨g, a, none⟩ = false
theorem RowQ.below {w w' : World} {g : Nat} {l : List Rat} (h : RowQ w g l) (Z : Below w.heap.size w w') (Y : g < w.heap.size) : RowQ w' g l := fun a q ha =>
 ⟨(zcq Z Y (h a q ha).1 :), (Z.frozen (p := ⟨g, a, none⟩) Y).trans (h a q ha).2⟩
theorem RowQ.set {w : World} {g : Nat} {l : List Rat} (h : RowQ w g l) (i : Nat) (q : Rat) (X : i < l.length) : RowQ (w.setCell ⟨g, i, none⟩ (.string (RS q))) g (l.set i q) := fun a r ha => by
 rw [World.frozen?_setCell];by_cases e : i = a
 ·subst e
  rw [List.getElem?_set_self X] at ha;cases ha;obtain ⟨Z, Y⟩ := h i _ (List.getElem?_eq_getElem X);exact ⟨World.cell?_setCell_same _ _ _ Z, Y⟩
 ·rw [List.getElem?_set_ne e] at ha
  obtain ⟨Z, Y⟩ := h a r ha;exact ⟨(World.cell?_setCell_other _ _ _ _ (by intro V; simp only [Addr.mk.injEq] at V; omega)).trans Z, Y⟩
theorem RowQ.drew {w : World} {g : Nat} {l : List Rat} (h : RowQ w g l) : RowQ w.drew g l := h
def InsAt (l : List Rat) (i j : Nat) : Prop := ∀ (a b : Nat) (x y : Rat), a < b -> b <= i -> b ≠ j -> l[a]? = some x -> l[b]? = some y -> x <= y
def STo (l : List Rat) (i : Nat) : Prop := ∀ (a b : Nat) (x y : Rat), a < b -> b < i -> l[a]? = some x -> l[b]? = some y -> x <= y
theorem InsAt.start {l : List Rat} {i : Nat} (h : STo l i) : InsAt l i i := fun a b x y hab hbi hbj ha hb => h a b x y hab (by omega) ha hb
theorem InsAt.done {l : List Rat} {i j : Nat} (h : InsAt l i j) (N : ∀ Z x y, j = Z + 1 -> l[Z]? = some x -> l[j]? = some y -> x <= y) (O : j <= i) (Q : i < l.length) : STo l (i + 1) := by
 intro a b x y V R X S;by_cases e : b = j
 ·subst e
  obtain ⟨Z, rfl⟩ : ∃ Z, b = Z + 1 := ⟨b - 1, by omega⟩;obtain ⟨z, Y⟩ : ∃ z, l[Z]? = some z := ⟨_, List.getElem?_eq_getElem (by omega)⟩;have U := N Z z y rfl Y S;by_cases e2 : a = Z
  ·subst e2; rw [X] at Y; cases Y; exact U
  ·exact Rat.le_trans (h a Z x z (by omega) (by omega) (by omega) X Y) U
 ·exact h a b x y V (by omega) e X S
def swapL (l : List Rat) (j : Nat) (x y : Rat) : List Rat := (l.set (j + 1) x).set j y
theorem sLg (l : List Rat) (j : Nat) (x y : Rat) (Z : j + 1 < l.length) (a : Nat) : (swapL l j x y)[a]? = if a = j then some y else if a = j + 1 then some x else l[a]? := by
 unfold swapL;by_cases e : a = j
 ·subst e
  rw [if_pos rfl, List.getElem?_set_self (by rw [List.length_set]; omega)]
 ·rw [if_neg e, List.getElem?_set_ne (fun h => e h.symm)]
  by_cases e2 : a = j + 1
  ·subst e2; rw [if_pos rfl, List.getElem?_set_self Z]
  ·rw [if_neg e2, List.getElem?_set_ne (fun h => e2 h.symm)]
theorem InsAt.step {l : List Rat} {i j : Nat} {x y : Rat} (h : InsAt l i (j + 1)) (hx : l[j]? = some x) (hy : l[j + 1]? = some y) (R : j + 1 <= i) (S : y < x) : InsAt (swapL l j x y) i j := by
 have Q : j + 1 < l.length := (List.getElem?_eq_some_iff.1 hy).1;intro a b u v V X U Z Y;rw [sLg l j x y Q] at Z Y;rw [if_neg U] at Y;by_cases e1 : b = j + 1
 ·subst e1
  rw [if_pos rfl] at Y;cases Y;by_cases e2 : a = j
  ·subst e2; rw [if_pos rfl] at Z; cases Z; exact Rat.le_of_lt S
  ·rw [if_neg e2, if_neg (by omega)] at Z
   exact h a j u x (by omega) (by omega) (by omega) Z hx
 ·rw [if_neg e1] at Y
  by_cases e2 : a = j
  ·subst e2; rw [if_pos rfl] at Z; cases Z
   exact h (a + 1) b _ v (by omega) X e1 hy Y
  ·rw [if_neg e2] at Z
   by_cases e3 : a = j + 1
   ·subst e3; rw [if_pos rfl] at Z; cases Z
    exact h j b _ v (by omega) X e1 hx Y
   ·rw [if_neg e3] at Z
    exact h a b u v V X e1 Z Y
abbrev SpanQ := Nat × Rat × Rat
def cellS (s : SpanQ) : List Value := [.int .i64 (s.1 : Int), .string (RS s.2.1), .string (RS s.2.2)]
def cSS (l : List SpanQ) : List Value := l.flatMap cellS
def RdSp (w : World) (v : Value) (l : List SpanQ) : Prop := RdC 3 w v l.length (cSS l)
theorem cc0 (l : List SpanQ) (i : Nat) (s : SpanQ) (h : l[i]? = some s) (k : Nat) (Z : k < 3) : (cSS l)[i * 3 + k]? = (cellS s)[k]? := by
 unfold cSS;rw [gEf cellS 3 (fun _ => rfl) l i k Z, h];rfl
theorem RdSp.cells {w : World} {v : Value} {l : List SpanQ} (h : RdSp w v l) : ∃ p c, v = .slice p l.length c /\ (l ≠ [] -> ∃ b off, p = some ⟨b, off, none⟩ /\ b < w.heap.size /\
 ∀ i s, l[i]? = some s -> w.cell? ⟨b, off + i * 3, none⟩ = some (.int .i64 (s.1 : Int)) /\ w.cell? ⟨b, off + i * 3 + 1, none⟩ = some (.string (RS s.2.1)) /\ w.cell? ⟨b, off + i * 3 + 2, none⟩ = some (.string (RS s.2.2))) := by
 obtain ⟨p, c, O, _, _, _, R⟩ := h;refine ⟨p, c, O, fun hne => ?_⟩;have Z : cSS l ≠ [] := by
  intro e;rcases l with _ | ⟨a, l⟩
  ·exact hne rfl
  ·simp [cSS, cellS] at e
 obtain ⟨b, off, Q, X⟩ := R Z;have key : ∀ i s, l[i]? = some s -> w.cell? ⟨b, off + i * 3, none⟩ = some (.int .i64 (s.1 : Int)) /\ w.cell? ⟨b, off + i * 3 + 1, none⟩ = some (.string (RS s.2.1)) /\ w.cell? ⟨b, off + i * 3 + 2, none⟩ = some (.string (RS s.2.2)) := fun i s Y => by
  have V := X (i * 3 + 0) _ ((cc0 l i s Y 0 (by omega)).trans rfl);have U := X (i * 3 + 1) _ ((cc0 l i s Y 1 (by omega)).trans rfl);have S := X (i * 3 + 2) _ ((cc0 l i s Y 2 (by omega)).trans rfl);rw [<- Nat.add_assoc] at V U S;exact ⟨V, U, S⟩
 refine ⟨b, off, Q, ?_, key⟩;obtain ⟨s, Y⟩ : ∃ s, l[0]? = some s := ⟨_, List.getElem?_eq_getElem (List.length_pos_iff.2 hne)⟩;exact World.block_lt_of_cell? w _ (key 0 s Y).1
theorem BoxN.alloc {w : World} {b t : Nat} {l : List Value} (h : BoxN w b t l) (o : Obj) : BoxN (w.alloc o) b t l := h.below ((Below.refl _ _).alloc (Nat.le_refl _) _) h.lt
section
variable {W : World} {Be : Nat} {v0 vA vB : Value} {nA nB : Nat} {LA LB cA cB : List Value} {bA bB : Option Nat} {x : World}
end
end Go.Proofs.YtmcbeajdloaliaaGreatDoor
namespace Go.Proofs.YtmcbeajdloaliaaGreatDoor
open Go.RowKit Go.Lib
theorem rCo (q : Rat) (h : Sz 200 q) (w : World) (X : Good w) :
 Calls Tryz.prog 49 #[.string (RS q)] w (Ret (fun r _ => r = .int .i64 0) w) := by
 have U := h.size (by omega);refine (cQa (RS q) (by omega) w X).mono ?_;rintro e w' ⟨v, Y, V, Z⟩;exact ⟨v, Y, by rw [V, Rlt, rQR h]; rfl, Z⟩
def RowV (w : World) (v : Value) (l : List Rat) : Prop := (v = .slice none 0 0 /\ l = []) \/ ∃ g cap, v = .slice (some ⟨g, 0, none⟩) l.length cap /\ RowQ w g l /\ l.length <= cap /\ g < w.heap.size
theorem RowV.shape {w : World} {v : Value} {l : List Rat} (h : RowV w v l) : ∃ p c, v = .slice p l.length c := by
 rcases h with ⟨rfl, rfl⟩ | ⟨g, cap, rfl, _⟩
 ·exact ⟨_, _, rfl⟩
 ·exact ⟨_, _, rfl⟩
theorem RowV.below {w w' : World} {v : Value} {l : List Rat} {B : Nat} (h : RowV w v l) (Y : Below B w w') (V : ∀ g, v.ownBlock = some g -> g < B) : RowV w' v l := by
 rcases h with ⟨rfl, rfl⟩ | ⟨g, cap, rfl, X, U, S⟩
 ·exact .inl ⟨rfl, rfl⟩
 ·have Z := V g rfl
  exact .inr ⟨g, cap, rfl, fun a q ha => ⟨(zcq Y Z (X a q ha).1 :), (Y.frozen (p := ⟨g, a, none⟩) Z).trans (X a q ha).2⟩, U, Nat.lt_of_lt_of_le S Y.size⟩
theorem RowV.lt {w : World} {v : Value} {l : List Rat} (h : RowV w v l) (g : Nat) (Y : v.ownBlock = some g) : g < w.heap.size := by
 rcases h with ⟨rfl, rfl⟩ | ⟨X, cap, rfl, U, V, Z⟩
 ·cases Y
 ·cases Y; exact Z
theorem RowV.at {w : World} {v : Value} {l : List Rat} (h : RowV w v l) {a : Nat} {q : Rat} (Z : l[a]? = some q) : ∃ g cap, v = .slice (some ⟨g, 0, none⟩) l.length cap /\ g < w.heap.size /\ RowQ w g l := by
 rcases h with ⟨rfl, rfl⟩ | ⟨g, cap, rfl, X, V, Y⟩
 ·cases Z
 ·exact ⟨g, cap, rfl, Y, X⟩
def CapP (A x y w V : Rat) : Prop := (y < 0 \/ w < 0) /\ 0 < x /\ y <= 0 /\ w <= 0 /\ ∃ r s : Rat, r * (x - y) = x /\ s * (x - w) = x /\ 6 * V = A * (x * r * s)
def NotP (A x y w V : Rat) : Prop := (0 < y \/ 0 < w) /\ x < 0 /\ 0 <= y /\ 0 <= w /\ ∃ r s : Rat, r * (x - y) = x /\ s * (x - w) = x /\ 6 * V = A * (x + y + w) - A * (x * r * s)
def VolP (A x y w V : Rat) : Prop :=
 (x <= 0 /\ y <= 0 /\ w <= 0 /\ V = 0) \/ (0 <= x /\ 0 <= y /\ 0 <= w /\ 6 * V = A * (x + y + w)) \/ (CapP A x y w V \/ NotP A x y w V) \/ (CapP A y w x V \/ NotP A y w x V) \/ (CapP A w x y V \/ NotP A w x y V)
section
variable {A x y w V V' : Rat}
def TipP (A x y w V : Rat) : Prop := CapP A x y w V \/ NotP A x y w V
theorem TipP.sgn (h : TipP A x y w V) : ((y < 0 \/ w < 0) /\ 0 < x /\ y <= 0 /\ w <= 0) \/ ((0 < y \/ 0 < w) /\ x < 0 /\ 0 <= y /\ 0 <= w) := by
 rcases h with ⟨Z, Y, X, U, -⟩ | ⟨Z, Y, X, U, -⟩
 ·exact .inl ⟨Z, Y, X, U⟩
 ·exact .inr ⟨Z, Y, X, U⟩
end
end Go.Proofs.YtmcbeajdloaliaaGreatDoor
namespace Go.Proofs.YtmcbeajdloaliaaGreatDoor
open Go.RowKit Go.Lib
theorem rMM {s : ByteArray} {m : Nat} (h : rQQ s.data.toList = true) (X : 0 < m) (S : s.size <= m) : ∃ q : Rat, s = RS q /\ Sz m q := by
 obtain ⟨q, hq, _⟩ := rQv h;have U : s = RS q := by
  have : s.data = (RL q).toArray := by rw [<- hq]
  unfold RS;rw [<- this]
 refine ⟨q, U, ?_⟩;have Z : (RL q).length <= m := by
  have Y : s.data.toList.length = s.size := by rw [Array.length_toList]; rfl
  rw [hq] at Y;omega
 have key : ∀ n : Nat, (decDigits n).length <= m -> n < 10 ^ m := fun n h => (ldD n m X).1 h;have V : (itoa q.num).length <= m -> q.num.natAbs < 10 ^ m := fun h => by
  rw [iln] at h;exact key _ (by rw [decDigits_length]; omega)
 unfold RL at Z;by_cases Y : q.den = 1
 ·rw [if_pos Y] at Z
  exact ⟨V Z, by rw [Y]; exact Nat.lt_of_lt_of_le (by decide : 1 < 10 ^ 1) (Nat.pow_le_pow_right (by decide) X)⟩
 ·rw [if_neg Y, List.length_append, List.length_cons] at Z
  exact ⟨V (by omega), key _ (by omega)⟩
def subQ (F G : List Rat) : List Rat := List.zipWith (fun a b => a - b) F G
theorem sQl (F G : List Rat) (h : F.length = G.length) : (subQ F G).length = G.length := by unfold subQ; rw [List.length_zipWith]; omega
theorem sQg (F G : List Rat) (i : Nat) (Z : i < F.length) (Y : i < G.length) : (subQ F G)[i]? = some (F[i] - G[i]) := by
 unfold subQ;rw [List.getElem?_zipWith];simp [Z, Y]
end Go.Proofs.YtmcbeajdloaliaaGreatDoor
