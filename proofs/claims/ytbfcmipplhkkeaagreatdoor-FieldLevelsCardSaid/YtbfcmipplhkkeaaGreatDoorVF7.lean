import Derived.Test.YtbfcmipplhkkeaaGreatDoorVM8b
/- The walk over mesh.Along. mesh.Contains The walks over field.Profile$1, field.Profile. The walk over field.Profile. -/
set_option maxHeartbeats 8000000
set_option maxRecDepth 100000
namespace Go.Proofs.YtbfcmipplhkkeaaGreatDoor
open Go.RowKit Go.Lib
theorem agn (w : World) (vp vt : Value) (P : List PtQ) (T : List Tri) (k m : Nat) (hp : RdP w vp (strP P)) (ht : RdT w vt T) (hm : MeshOK P T k) (hH : k <= m) (xq : m <= 100) (vA : T.length <= 6) (a b : PtQ) (za : SzP m a) (zb : SzP m b) (xe : a ≠ b) (hW : ∀ tr ∈ T, ∀ r, wFF (ptI P tr.1) (ptI P tr.2.1) (ptI P tr.2.2) a b = some r -> Sz 200 r.1 /\ Sz 200 r.2) (xd : ∀ i, ∀ s ∈ sNN P T a b i, Sz 200 s.2.1 /\ Sz 200 s.2.2) (hg : Good w) :
 Calls Tryz.prog 57 #[.agg #[vp, vt], .agg #[.string (RS a.1), .string (RS a.2)], .agg #[.string (RS b.1), .string (RS b.2)]] w (Ret (fun r w' => ∃ v, r = .tuple #[v, .int .i64 0] /\ RdSp w' v (aLL P T a b)) w) := by
 obtain ⟨i0, hi, zO, zP, zQ⟩ := info_parts iSn;obtain ⟨i1, hj, yD, yE, yF⟩ := info_parts isr;have yu : 0 < m := by have := hm.kpos; omega
 have yN : Hid (∀ w', Below w.heap.size w w' -> Good w' -> Calls Tryz.prog 33 #[.agg #[vp, vt]] w' (Ret (fun r _ => r = .int .i64 0) w')) := fun w' hb hg' => ci0 w' vp vt P T k (RdC.below hp hb) (RdC.below ht hb) hm hg';have zE := hid fun w hg => cD0 a m za yu (by omega) w hg
 have yM := hid fun w hg => cD0 b m zb yu (by omega) w hg
 have yS : Hid (∀ (i : Nat) (tr : Tri), T[i]? = some tr -> ∀ w', Below w.heap.size w w' -> Calls Tryz.prog 78 #[.agg #[vp, vt], .int .i64 (i : Int)] w' (Ret (fun r _ => r = .agg #[.string (RS (ptI P tr.1).1), .string (RS (ptI P tr.1).2), .string (RS (ptI P tr.2.1).1), .string (RS (ptI P tr.2.1).2), .string (RS (ptI P tr.2.2).1), .string (RS (ptI P tr.2.2).2)]) w')) := fun i tr hti w' hb => by
  obtain ⟨D, h2⟩ := List.getElem?_eq_some_iff.1 hti;exact mb0 w' vp vt P T k (RdC.below hp hb) (RdC.below ht hb) hm.toMIn i (i : Int) rfl D tr h2.symm
 have yZ : Hid (∀ (i : Nat) (tr : Tri), T[i]? = some tr -> ∀ w, Good w -> Calls Tryz.prog 102 #[.agg #[.string (RS (ptI P tr.1).1), .string (RS (ptI P tr.1).2), .string (RS (ptI P tr.2.1).1), .string (RS (ptI P tr.2.1).2), .string (RS (ptI P tr.2.2).1), .string (RS (ptI P tr.2.2).2)], .agg #[.string (RS a.1), .string (RS a.2)], .agg #[.string (RS b.1), .string (RS b.2)]] w (Ret (fun r _ => WPP (wFF (ptI P tr.1) (ptI P tr.2.1) (ptI P tr.2.2) a b) r) w)) := fun i tr hti w hg => by
  obtain ⟨z0, z1, z2⟩ := pIS hm (List.mem_of_getElem? hti);exact wgn _ _ _ a b m yu xq (hW tr (List.mem_of_getElem? hti)) ⟨z0.1.mono hH, z0.2.mono hH⟩ ⟨z1.1.mono hH, z1.2.mono hH⟩ ⟨z2.1.mono hH, z2.2.mono hH⟩ za zb w hg
 have yf : Hid (∀ i, ∀ s ∈ sNN P T a b i, Sz 200 s.2.1 /\ Sz 200 s.2.2) := xd;clear xd;have xx := (tps a b).resolve_left (fun e => xe e.1);have yY := hid xx.2;obtain ⟨G, hC⟩ : ∃ G : Nat -> List SpanQ, G = sNN P T a b := ⟨_, rfl⟩;rw [<- hC] at yf;have yL : Hid (∀ (i : Nat) (tr : Tri), T[i]? = some tr -> ∀ l, wFF (ptI P tr.1) (ptI P tr.2.1) (ptI P tr.2.2) a b = some l -> G (i + 1) = G i ++ [(i, l.1, l.2)]) := fun i tr hti l hl => by rw [hC, sNs, sAs hti hl]
 have yJ : Hid (∀ (i : Nat) (tr : Tri), T[i]? = some tr -> wFF (ptI P tr.1) (ptI P tr.2.1) (ptI P tr.2.2) a b = none -> G (i + 1) = G i) := fun i tr hti hl => by rw [hC, sNs, sAn hti hl, List.append_nil]
 have zD : Hid (G 0 = []) := by unfold Hid; rw [hC]; rfl
 have xL : Hid (∀ i, (G i).length <= i) := fun i => by rw [hC]; exact sNl P T a b i
 have xK : Hid (aLL P T a b = aSS (G T.length)) := by unfold Hid; rw [hC]; rfl
 obtain ⟨pp, cp, rfl, -, -, -⟩ := hp.open;obtain ⟨pt, ct, rfl, -, -, -⟩ := ht.open;rw [sPl] at *;rw [xK.out];have vC : (T.length : Int) <= 6 := by omega
 clear hp ht hm hH xq za zb xe xx hC hW;go_enter Tryz.func57, Tryz.ntmps57;go_wp2_with fail;obtain ⟨W0, hX⟩ : ∃ W, W = ((w.alloc (.cells #[.slice pp P.length cp, .slice pt T.length ct] 35)).alloc (.cells #[.string (RS a.1), .string (RS a.2)] 50)).alloc (.cells #[.string (RS b.1), .string (RS b.2)] 50) := ⟨_, rfl⟩;have zI : Below w.heap.size w W0 := by rw [hX]; exact (((Below.refl _ _).alloc (Nat.le_refl _) _).alloc (by simp) _).alloc (by simp; omega) _
 have b5 : BoxN W0 (w.heap.size + 1 + 1) 50 [.string (RS b.1), .string (RS b.2)] := by rw [hX]; exact BoxN.new _ _ _ _ (by simp)
 have b4 : BoxN W0 (w.heap.size + 1) 50 [.string (RS a.1), .string (RS a.2)] := by
  rw [hX];have D := (BoxN.new (w.alloc (.cells #[.slice pp P.length cp, .slice pt T.length ct] 35)) #[.string (RS a.1), .string (RS a.2)] 50 (w.heap.size + 1) (by simp));exact D.below (zal _ _) D.lt
 have b3 : BoxN W0 w.heap.size 35 [.slice pp P.length cp, .slice pt T.length ct] := by
  rw [hX];have D := (BoxN.new w #[.slice pp P.length cp, .slice pt T.length ct] 35 _ rfl);exact (D.below ((Below.refl _ _).alloc (Nat.le_refl _) _) D.lt).below ((Below.refl _ _).alloc (Nat.le_refl _) _) (by simp; omega)
 rw [<- hX];clear hX;refine (yN.out W0 zI (hg.below zI)).mono ?_;rintro e w1 ⟨_, rfl, rfl, hF⟩;have yn := zbt zI hF;have ym := b5.below hF b5.lt;have z9 := b4.below hF b4.lt;have yj := b3.below hF b3.lt;clear hF zI b5 b4 b3;have x0 := z9.cell 0 rfl;have x1 := z9.cell 1 rfl;go_wp2_with fail;refine (zE.out w1 (hg.below yn)).mono ?_;rintro e w2 ⟨_, rfl, rfl, zk⟩;have zi := zbt yn zk;have ze := ym.below zk ym.lt;have yl := z9.below zk z9.lt;have yk := yj.below zk yj.lt;clear zk yn ym z9 yj x0 x1;have x0 := ze.cell 0 rfl;have x1 := ze.cell 1 rfl;go_wp2_with fail;refine (yM.out w2 (hg.below zi)).mono ?_;rintro e H ⟨_, rfl, rfl, zl⟩;have x7 := zbt zi zl;have hU := ze.below zl ze.lt;have zc := yl.below zl yl.lt;have z7 := yk.below zl yk.lt;clear zl zi ze yl yk x0 x1;have x0 := hU.cell 0 rfl;have x1 := hU.cell 1 rfl;have y0 := zc.cell 0 rfl;have y1 := zc.cell 1 rfl;go_upto_region 6 with fail;go_cut [36] (fun s36 wx => s36 = .bool false /\ wx = H)
 case first =>
  rcases yY.out with D | ⟨D, h2⟩
  all_goals
   go_wp2_with fail;go_meet;exact ⟨rfl, rfl⟩
 case rest =>
  obtain ⟨rfl, xy⟩ := hcut;rw [xy];clear xy;clear x0 x1 y0 y1;have x1 := z7.cell 1 rfl;have xp := z7.lt;have v8 : (H.alloc (.cells #[.slice none 0 0] 37)).cell? ⟨w.heap.size, 1, none⟩ = some (.slice pt T.length ct) := cal _ x1;go_wp2_with fail;clear v8 xp;obtain ⟨W, hW⟩ := zex (H.alloc (.cells #[.slice none 0 0] 37));have zm : Below H.heap.size H W := by rw [hW]; exact zal _ _
  have be : BoxN W H.heap.size 37 [.slice none 0 0] := by rw [hW]; exact BoxN.new _ _ _ _ rfl
  have xR : Hid (W.heap.size = H.heap.size + 1) := by unfold Hid; rw [hW]; simp
  have xa := zbt x7 zm;have B5 := hid (hU.below zm hU.lt);have B4 := hid (zc.below zm zc.lt);have B3 := hid (z7.below zm z7.lt);have vk : w.heap.size + 1 + 1 < H.heap.size := hU.lt;have zj : H.heap.size < W.heap.size := by rw [xR.out]; omega
  rw [<- hW];clear hW zm x7 hU zc z7 x1 yN zE yM yY;go_loopw [9, 40] (fun t9 t40 wr => ∃ (i V : Nat) (vB : Value), t40 = .int .i64 i /\ i <= T.length /\ Hid (V = (G i).length) /\ V <= i /\ BoxN wr H.heap.size 37 [vB] /\ wr.ownsRow W.heap.size 136 3 t9 V (cSS (G i)) /\ wr.ownsRow W.heap.size 40 1 vB (2 * V) (cQQ (endsS (G i))) /\ W.grownBy wr (some H.heap.size)) (fun _ t40 _ => T.length - (RowKit.intOf t40).toNat)
  case atStart => exact ⟨0, 0, _, rfl, Nat.zero_le _, (by unfold Hid; rw [zD.out]; rfl), Nat.le_refl _, be, by rw [zD.out]; exact World.ownsRow_nil _ _ _ _, by rw [zD.out]; exact World.ownsRow_nil _ _ _ _, grl _ _⟩
  case round =>
   clear be;obtain ⟨i, V, vB, rfl, vl, HN, vx, hB, B, O, hz⟩ := hrel;obtain ⟨pA, cA, rfl⟩ := oRs B;obtain ⟨pB, cB, rfl⟩ := oRs O;have hY : Below w.heap.size w wr := bgb xa hz (by omega);have z8 := B3.out.gb hz (by intro e; injection e with e; omega);have zd := B4.out.gb hz (by intro e; injection e with e; omega);have zf := B5.out.gb hz (by intro e; injection e with e; omega);rcases Nat.lt_or_ge i T.length with h | h
   ·obtain ⟨tr, zw⟩ : ∃ tr, T[i]? = some tr := ⟨_, List.getElem?_eq_getElem h⟩
    have HM := hid (yS.out i tr zw);have HW := hid (yZ.out i tr zw);have HS := hid (yL.out i tr zw);have HE := hid (yJ.out i tr zw);generalize ptI P tr.1 = c0 at *;generalize ptI P tr.2.1 = c1 at *;generalize ptI P tr.2.2 = c2 at *;generalize wFF c0 c1 c2 a b = l at *;have vm : (i : Int) < (T.length : Int) := by omega
    have m0 := z8.cell 0 rfl;have m1 := z8.cell 1 rfl;have a0 := zd.cell 0 rfl;have a1 := zd.cell 1 rfl;have q0 := zf.cell 0 rfl;have q1 := zf.cell 1 rfl;have yv := z8.lt;have zt := zd.lt;have zu := zf.lt;have xm : Good wr.drew := (hg.below hY).drewN 1;have xg : Below w.heap.size w wr.drew := hY.trans ((bdN wr 1).mono hY.size);clear zw;go_upto_region 13 with fail;go_region_held3 (fun w' => w'.cell? ⟨w.heap.size, 0, none⟩ = some (.slice pp P.length cp) /\ w'.cell? ⟨w.heap.size, 1, none⟩ = some (.slice pt T.length ct) /\ w'.cell? ⟨w.heap.size + 1, 0, none⟩ = some (.string (RS a.1)) /\ w'.cell? ⟨w.heap.size + 1, 1, none⟩ = some (.string (RS a.2)) /\ w'.cell? ⟨w.heap.size + 1 + 1, 0, none⟩ = some (.string (RS b.1)) /\ w'.cell? ⟨w.heap.size + 1 + 1, 1, none⟩ = some (.string (RS b.2)))
     (first | exact ⟨m0, m1, a0, a1, q0, q1⟩ | exact ⟨p_1_0, p_1_1, p_1_2, p_1_3, p_1_4, p_1_5⟩ | exact ⟨p_2_0, p_2_1, p_2_2, p_2_3, p_2_4, p_2_5⟩)
     (first
     | (go_at_call 102; refine (HW.out _ xJ).mono ?_; rintro e z ⟨_, rfl, ⟨xs, ys, rfl, xz⟩, hf⟩
        have p_2_0 := zct hf p_1_0;have p_2_1 := zct hf p_1_1;have p_2_2 := zct hf p_1_2;have p_2_3 := zct hf p_1_3;have p_2_4 := zct hf p_1_4;have p_2_5 := zct hf p_1_5;have vM := hf.size;have vK := xJ.below hf)
     | (go_at_call 78; refine (HM.out wr.drew xg).mono ?_; rintro e v7 ⟨_, rfl, rfl, he⟩
        have p_1_0 := zct he m0;have p_1_1 := zct he m1;have p_1_2 := zct he a0;have p_1_3 := zct he a1;have p_1_4 := zct he q0;have p_1_5 := zct he q1;have vL : wr.heap.size <= v7.heap.size := he.size;have xJ := xm.below he))
    have pB : Below wr.heap.size wr z := zbt (zbt (bdN wr 1) he) hf;have zH := hB.below pB hB.lt;have K := WRA B pB;have hK := WRA O pB;have f := gbw hz pB;have yg := hid xz;clear xz hB B O hz pB z8 zd zf m0 m1 a0 a1 q0 q1 xm xg hY HM HW;rcases l with _ | ⟨lo, U⟩
    ·have z3 := hid (HE.out rfl)
     clear yg HS HE;go_wp2_with fail;go_roundw
     case rel => exact ⟨i + 1, V, _, by go_num, by omega, (by unfold Hid; rw [z3.out]; exact HN.out), by omega, zH, by rw [z3.out]; exact K, by rw [z3.out]; exact hK, f⟩
     case measure =>
      show T.length - ((i : Int) + 1).toNat < T.length - (i : Int).toNat;omega
    ·obtain ⟨ex, ey, _, _, _⟩ := yg.out _ rfl
     dsimp only at ex ey;subst ex ey;have zR := hid (HS.out _ rfl);have F : ApW W H.heap.size (.slice pB (2 * V) cB) (.slice pA V cA) V (cSS (G i)) (.slice pB (2 * V) cB) (2 * V) (cQQ (endsS (G i))) none none [.int .i64 (i : Int), .string (RS lo), .string (RS U)] [.string (RS lo), .string (RS U)] z :=
      ⟨K, hK, zH, f, fun b e => by (cases e), fun b e => by (cases e)⟩
     have FA := F.alloc_a.drew;have hS := F.alloc_a.alloc_b.drew;rw [show (z.alloc (.cells [Value.int .i64 (i : Int), .string (RS lo), .string (RS U)].toArray 136)).heap.size = z.heap.size + 1 by simp] at hS;have hT := F.alloc_b.alloc_a.drew;rw [show (z.alloc (.cells [Value.string (RS lo), .string (RS U)].toArray 40)).heap.size = z.heap.size + 1 by simp] at hT;have yH := zH.cell 0 rfl;have xC := cal (.cells #[.int .i64 (i : Int), .string (RS lo), .string (RS U)] 136) yH;have xE := cal (.cells #[.string (RS lo), .string (RS U)] 40) yH;have xD := cal (.cells #[.string (RS lo), .string (RS U)] 40) xC;have xF := cal (.cells #[.int .i64 (i : Int), .string (RS lo), .string (RS U)] 136) xE;have vv : V <= 6 := by omega
     clear yg HS HE F zH K hK f;go_upto_region 15 with fail;rw [show Op.load 37 (.tmp 10) = id (Op.load 37 (.tmp 10)) from rfl];go_region_held3 (fun _ => True)
      (trivial)
      (first
        | (refine step_append_lies _ (by rfl) (.tmp 61) (.tmp 64) 37 (by rfl) W.heap.size 40 i1 (.string ⟨#[]⟩) 1 16 Tryz.underlying37 hj yD yE yF rfl (by decide) _ (2 * V) _ (by simp [Act.eval]) G5.ob ⟨z.heap.size + 1, 0, none⟩ 2 2 [.string (RS lo), .string (RS U)] (by simp [Act.eval]) rfl G5.news_b (toe _ _) (by omega) (by unfold maxLen; omega) (by omega) G5.gb.size _ rfl ?_; intro g6 hM w6 Z c zX y8; have G6 := G5.app_b Z c; have xB := G6.box.cell 0 rfl; have xG := G6.box.frozen 0)
        | (refine step_append_lies _ (by rfl) (.tmp 61) (.tmp 64) 37 (by rfl) W.heap.size 40 i1 (.string ⟨#[]⟩) 1 16 Tryz.underlying37 hj yD yE yF rfl (by decide) _ (2 * V) _ (by simp [Act.eval]) G5.ob ⟨z.heap.size, 0, none⟩ 2 2 [.string (RS lo), .string (RS U)] (by simp [Act.eval]) rfl G5.news_b (toe _ _) (by omega) (by unfold maxLen; omega) (by omega) G5.gb.size _ rfl ?_; intro g6 hM w6 Z c zX y8; have G6 := G5.app_b Z c; have xB := G6.box.cell 0 rfl; have xG := G6.box.frozen 0)
        | (refine step_append_lies _ (by rfl) (.tmp 61) (.tmp 64) 37 (by rfl) W.heap.size 40 i1 (.string ⟨#[]⟩) 1 16 Tryz.underlying37 hj yD yE yF rfl (by decide) _ (2 * V) _ (by simp [Act.eval]) (G5.alloc_b).ob ⟨w5.heap.size, 0, none⟩ 2 2 [.string (RS lo), .string (RS U)] (by simp [Act.eval]) rfl (G5.alloc_b).news_b (toe _ _) (by omega) (by unfold maxLen; omega) (by omega) (G5.alloc_b).gb.size _ rfl ?_; intro g6 hM w6 Z c zX y8; have G6 := (G5.alloc_b).app_b Z c; have xB := G6.box.cell 0 rfl; have xG := G6.box.frozen 0)
        | (refine step_append_lies _ (by rfl) (.tmp 54) (.tmp 59) 127 (by rfl) W.heap.size 136 i0 (.agg #[.int .i64 0, .string ⟨#[]⟩, .string ⟨#[]⟩]) 3 40 Tryz.underlying127 hi zO zP zQ rfl (by decide) _ V _ (by simp [Act.eval]) FA.oa ⟨z.heap.size, 0, none⟩ 1 1 [.int .i64 (i : Int), .string (RS lo), .string (RS U)] (by simp [Act.eval]) rfl FA.news_a (soe _ _ _) (by omega) (by unfold maxLen; omega) (by omega) FA.gb.size _ rfl ?_; intro g5 zU w5 M d zW y7; have G5 := FA.app_a M d; have hZ := G5.box.cell 0 rfl; have zA := cal (.cells #[.string (RS lo), .string (RS U)] 40) hZ)
        | (refine step_append_lies _ (by rfl) (.tmp 54) (.tmp 59) 127 (by rfl) W.heap.size 136 i0 (.agg #[.int .i64 0, .string ⟨#[]⟩, .string ⟨#[]⟩]) 3 40 Tryz.underlying127 hi zO zP zQ rfl (by decide) _ V _ (by simp [Act.eval]) hS.oa ⟨z.heap.size, 0, none⟩ 1 1 [.int .i64 (i : Int), .string (RS lo), .string (RS U)] (by simp [Act.eval]) rfl hS.news_a (soe _ _ _) (by omega) (by unfold maxLen; omega) (by omega) hS.gb.size _ rfl ?_; intro g5 zU w5 M d zW y7; have G5 := hS.app_a M d; have hZ := G5.box.cell 0 rfl; have zA := cal (.cells #[.string (RS lo), .string (RS U)] 40) hZ)
        | (refine step_append_lies _ (by rfl) (.tmp 54) (.tmp 59) 127 (by rfl) W.heap.size 136 i0 (.agg #[.int .i64 0, .string ⟨#[]⟩, .string ⟨#[]⟩]) 3 40 Tryz.underlying127 hi zO zP zQ rfl (by decide) _ V _ (by simp [Act.eval]) hT.oa ⟨z.heap.size + 1, 0, none⟩ 1 1 [.int .i64 (i : Int), .string (RS lo), .string (RS U)] (by simp [Act.eval]) rfl hT.news_a (soe _ _ _) (by omega) (by unfold maxLen; omega) (by omega) hT.gb.size _ rfl ?_; intro g5 zU w5 M d zW y7; have G5 := hT.app_a M d; have hZ := G5.box.cell 0 rfl; have zA := cal (.cells #[.string (RS lo), .string (RS U)] 40) hZ))
     all_goals
      have z5 : Hid (V + 1 = (G (i + 1)).length) := by unfold Hid; rw [zR.out, List.length_append, <- HN.out]; rfl
      have yP : Hid (cSS (G i) ++ [.int .i64 (i : Int), .string (RS lo), .string (RS U)] = cSS (G (i + 1)) /\ cQQ (endsS (G i)) ++ [.string (RS lo), .string (RS U)] = cQQ (endsS (G (i + 1)))) := by
       unfold Hid; rw [zR.out, cSs, eSa];refine ⟨rfl, ?_⟩;unfold cQQ; rw [List.map_append]; rfl
      have xH := G6.oa;have xI := G6.ob;rw [yP.out.1] at xH;rw [yP.out.2] at xI;have xS := G6.box.set 0 (.slice (some ⟨g6, 0, none⟩) (2 * V + 2) hM);have xV := gst G6.gb 0 (.slice (some ⟨g6, 0, none⟩) (2 * V + 2) hM);clear G5 G6 FA hS hT yH xC xE xD xF hZ zA d c M Z;go_wp2_with fail;go_roundw
      case rel => exact ⟨i + 1, V + 1, _, by go_num, by omega, z5, by omega, xS, ownsRow_setCell_below xH (by show H.heap.size < W.heap.size; exact zj) _, by rw [show 2 * (V + 1) = 2 * V + 2 by omega]; exact ownsRow_setCell_below xI (by show H.heap.size < W.heap.size; exact zj) _, xV⟩
      case measure =>
       show T.length - ((i : Int) + 1).toNat < T.length - (i : Int).toNat;omega
   ·have va : (T.length : Int) <= (i : Int) := by omega
    have HI : Hid (i = T.length) := by unfold Hid; omega
    obtain ⟨A, hA⟩ := zex (G i);rw [<- hA] at B O HN;have z4 : Hid (aSS (G T.length) = joinN A (sortD (endsS A)) ((sortD (endsS A)).length - 1)) := by unfold Hid; rw [hA, HI.out]; rfl
    have HZ : Hid (∀ s ∈ A, Sz 200 s.2.1 /\ Sz 200 s.2.2) := by unfold Hid; rw [hA]; exact yf.out i
    have vu : V <= 6 := by omega
    have yw : (endsS A).length = 2 * V := by rw [eSl, <- HN.out]
    have zF := hid yw;have yi : Hid (∀ q ∈ endsS A, Sz 200 q) := eSS HZ.out;have yV : Hid (RowV wr (.slice pB (2 * V) cB) (endsS A)) := RowV.of_own O yw.symm;have yc : Hid (∀ g, (Value.slice pB (2 * V) cB).ownBlock = some g -> W.heap.size <= g) := fun g e => (O.lt g e).1;have zG : Hid (some H.heap.size ≠ (Value.slice pB (2 * V) cB).ownBlock) := obN O hB (by decide);have yb : Hid ((Value.slice pA V cA).ownBlock = none \/ (Value.slice pA V cA).ownBlock ≠ (Value.slice pB (2 * V) cB).ownBlock) := oat B O (by decide);have xW : w.heap.size <= W.heap.size := by omega
    have x0 := hB.cell 0 rfl;clear hA yw yS yZ yL yJ zD xL yf z8 zd zf;go_wp2_with fail;refine (sVa w wr _ (endsS A) (by rw [zF.out]; omega) yi.out yV.out hY (fun g e => Nat.le_trans xW (yc.out g e)) hg).mono ?_;rintro e w4 ⟨rfl, l, xn, xo, yv, zt⟩;have zn : BoxN w4 H.heap.size 37 [.slice pB (2 * V) cB] := hB.gb zt (fun e => zG.out e.symm);have zB := B.kept zt yb.out;have y4 := ggn hz zt (fun j e => yc.out j e);have yd := hid xn;have yW := hid xo;have zS := hid yv;clear x0 hB B O hz xn xo yv zt yV;have x0 := zn.cell 0 rfl;go_wp2_with fail;refine (cVa w4 _ l (by rw [yd.out.length_eq, zF.out]; omega) yW.out zS.out).mono ?_;rintro e w5 ⟨v5, rfl, zM, xv, zu⟩;obtain ⟨E, hE⟩ := zex (sortD (endsS A));rw [ss0 yd.out, <- hE] at zM;rw [<- hE] at z4;obtain ⟨p5, c5, rfl⟩ := zM.shape;have hN : BoxN w5 H.heap.size 37 [.slice pB (2 * V) cB] := zn.gb zu (fun e => zG.out e.symm);have zC := zB.kept zu yb.out;have y5 := ggn y4 zu (fun j e => yc.out j e);have yh : Hid (∀ q ∈ E, Sz 200 q) := fun q hq => yi.out q ((sDm _ _).1 (by rw [<- hE]; exact hq))
    have vj : E.length <= 12 := by rw [hE]; exact Nat.le_trans (sDl _) (by rw [zF.out]; omega)
    have yT : Hid ((Value.slice p5 E.length c5).ownBlock ≠ some H.heap.size) := fun e => by rw [xv] at e; exact zG.out e.symm
    have yU := hid zM;have x5 := hN.cell 0 rfl;have v9 := hN.frozen 0;clear x0 zn zB y4 zS yW yd zu zM xv hE;obtain ⟨R, hD⟩ : ∃ X, X = w5.setCell ⟨H.heap.size, 0, none⟩ (.slice p5 E.length c5) := ⟨_, rfl⟩;have x3 : BoxN R H.heap.size 37 [.slice p5 E.length c5] := by rw [hD]; exact hN.set 0 _
    have K : R.ownsRow W.heap.size 136 3 (.slice pA V cA) V (cSS A) := by rw [hD]; exact ownsRow_setCell_below zC zj _
    have ye : Hid (RowV R (.slice p5 E.length c5) E) := by unfold Hid; rw [hD]; exact yU.out.setFar _ _ _ yT.out
    have f : W.grownBy R (some H.heap.size) := by rw [hD]; exact gst y5 0 _
    have zi : Below w.heap.size w R := bgb xa f (by omega);have xk := x3.lt;have zT : Hid (R.heap.size = w5.heap.size) := by unfold Hid; rw [hD]; simp
    clear yT yU hN zC y5;go_wp2_with fail;rw [<- hD];clear hD x5 v9;obtain ⟨N, hV⟩ : ∃ J : Nat -> List SpanQ, J = joinN A E := ⟨_, rfl⟩;have yR : Hid (N 0 = []) := by unfold Hid; rw [hV]; rfl
    have xN : Hid (∀ j x y, E[j]? = some x -> E[j + 1]? = some y -> N (j + 1) = stepO A (N j) x y) := fun j x y hx hy => by rw [hV]; show stepO A (joinN A E j) _ _ = _; rw [hx, hy]; rfl
    have vf : Hid (∀ j, (N j).length <= j) := fun j => by rw [hV]; exact jNl A E j
    have xO : Hid (∀ j, ∀ s ∈ N j, Sz 200 s.2.1 /\ Sz 200 s.2.2) := fun j => by rw [hV]; exact jNS yh.out j
    have yK : Hid (aSS (G T.length) = N (E.length - 1)) := by unfold Hid; rw [hV]; exact z4.out
    have x4 : BoxN (R.alloc (.cells #[.int .i64 1] 3)) R.heap.size 3 [.int .i64 1] := BoxN.new _ _ _ _ rfl;have y3 : Below R.heap.size R (R.alloc (.cells #[.int .i64 1] 3)) := zal _ _;clear hV z4 HI yb zG f zF yi hY
    go_loopg [15, 16] E.length (fun gm t15 t16 wr => ∃ (j Bi n : Nat), t16 = .pointer (some ⟨Bi, 0, none⟩) /\ (j + 1 <= E.length \/ j = 0) /\ E.length - j <= gm /\ BoxN wr Bi 3 [.int .i64 ((j : Int) + 1)] /\ R.heap.size <= Bi /\ Hid (n = (N j).length) /\ n <= j /\ wr.ownsRow R.heap.size 136 3 t15 n (cSS (N j)) /\ Below R.heap.size R wr)
    case atStart => exact ⟨0, w5.heap.size, 0, rfl, .inr rfl, by omega, by rw [<- zT.out]; exact x4, by rw [zT.out]; exact Nat.le_refl _, (by unfold Hid; rw [yR.out]; rfl), Nat.le_refl _, by rw [yR.out]; exact World.ownsRow_nil _ _ _ _, y3⟩
    case round =>
     clear x4 y3;obtain ⟨j, Bi, n, rfl, vn, vo, zK, vi, h4, v3, hP, o⟩ := hrel;obtain ⟨po, co, rfl⟩ := oRs hP;have hO : Below w.heap.size w wr := zbt zi o;have zg := x3.below o xk;have hd := WRA K o;have yp := ye.out.below o ye.out.lt;have ce := zg.cell 0 rfl;have ci := zK.cell 0 rfl;rcases Nat.lt_or_ge (j + 1) E.length with h2 | h2
     ·obtain ⟨x, hx⟩ : ∃ x, E[j]? = some x := ⟨_, List.getElem?_eq_getElem (by omega)⟩
      obtain ⟨y, hy⟩ : ∃ y, E[j + 1]? = some y := ⟨_, List.getElem?_eq_getElem h2⟩;have ya := hid (xN.out j x y hx hy);have zx := yh.out x (List.mem_of_getElem? hx);have zy := yh.out y (List.mem_of_getElem? hy);obtain ⟨g, cap, hv, xX, hR⟩ := yp.at hx;injection hv with hv1 hv2 hv3
      subst hv1 hv3;clear hv2;have xc : RdSp wr (.slice pA V cA) A := by unfold RdSp; rw [<- HN.out]; exact RdC.of_owns hd
      have yQ := hid (if0 wr (.slice pA V cA) A xc (by rw [<- HN.out]; omega) HZ.out H.heap.size Bi g E.length c5 j x y zx zy h2 (by omega) ce ci (hR j x hx).1 (hR (j + 1) y hy).1 (hg.below hO));have vq : (j : Int) + 1 < (E.length : Int) := by omega
      have HX := hid hx;have HY := hid hy;clear zx zy xc hx hy;go_wp2_with fail;refine yQ.out.mono ?_;rintro e w6 ⟨_, rfl, hk, hG⟩;have t := zK.below hG zK.lt;have zh := zg.below hG zg.lt;have yI := WRA hd hG;have Z := WRA hP hG;have hr : Below R.heap.size R w6 := zbt o hG;have hJ := hR.below hG xX;have v1 := t.lt;have yG := hr.size;clear zK zg hd hP o yp ce ci hR hG yQ hO;rcases hk with ⟨kk, zq, xZ, rfl⟩ | ⟨zq, rfl⟩
      ·obtain ⟨s, hs⟩ : ∃ s, A[kk]? = some s := ⟨_, List.getElem?_eq_getElem xZ⟩
       have zV : RdSp R (.slice pA V cA) A := by unfold RdSp; rw [<- HN.out]; exact RdC.of_owns K
       obtain ⟨_, _, yA, zp⟩ := zV.cells;injection yA with hvA1 hvA2 hvA3
       subst hvA1;clear hvA2 hvA3;obtain ⟨ba, oa, rfl, C, Q⟩ := zp (List.ne_nil_of_length_pos (by omega));have a0 := zcq hr C (Q kk s hs).1;have xl : g < R.heap.size := ye.out.lt g rfl;have d0 := t.cell 0 rfl;have d1 := zh.cell 0 rfl;have d2 := (hJ j x HX.out).1;have d3 := (hJ (j + 1) y HY.out).1;have vr : (kk : Int) < (V : Int) := by rw [HN.out]; omega
       have vc : (j : Int) < (E.length : Int) := by omega
       have vD : IntKind.i64.wrap ((j : Int) + 1 - 1) = (j : Int) := by rw [show (j : Int) + 1 - 1 = (j : Int) by omega]; exact IntWalk.i64_in _ (by omega)
       have vE : IntKind.i64.wrap (j : Int) = (j : Int) := IntWalk.i64_in _ (by omega);have vF : ((j : Int) + 1).toNat = j + 1 := by omega
       have vG : (0 : Int) <= (j : Int) + 1 := by omega
       have HS := hid hs;have y9 := hid zq;clear Q zp zV hs zq;go_upto_region 26 with fail;go_cut [113] (fun s113 wx => ∃ cr : Bool, s113 = .bool cr /\ Hid (cr = true ↔ ∃ L l, N j = L ++ [l] /\ l.1 = s.1 /\ l.2.2 = x) /\ ∃ nd, wx = w6.drewN nd)
       case first =>
        rcases Nat.eq_zero_or_pos n with h0 | h0
        ·have HR : Hid (false = true ↔ ∃ L l, N j = L ++ [l] /\ l.1 = s.1 /\ l.2.2 = x) := by
              refine ⟨fun h => (by cases h), ?_⟩;rintro ⟨L, l, D, _⟩;have := h4.out;rw [D, List.length_append] at this;simp at this;omega
         subst h0;rw [show ((0 : Nat) : Int) = 0 from rfl];clear a0 d0 d1 d2 d3;go_region
         all_goals
              go_wp2_with fail;go_meet;exact ⟨_, rfl, HR.out, 1, rfl⟩
        ·obtain ⟨S, rfl⟩ : ∃ S, n = S + 1 := ⟨n - 1, by omega⟩
         obtain ⟨L, l, hL⟩ : ∃ L l, N j = L ++ [l] := by
              rcases List.eq_nil_or_concat (N j) with e | ⟨L, l, e⟩
              ·have := h4.out; rw [e] at this; simp at this
              ·exact ⟨L, l, by rw [e, List.concat_eq_append]⟩
         have xb : L.length = S := by have := h4.out; rw [hL, List.length_append] at this; simp at this; omega
         obtain ⟨go, e0, e2, yx⟩ : ∃ go, w6.cell? ⟨go, S * 3, none⟩ = some (.int .i64 (l.1 : Int)) /\ w6.cell? ⟨go, S * 3 + 2, none⟩ = some (.string (RS l.2.2)) /\ po = some ⟨go, 0, none⟩ := by
              rcases Z.2 with ⟨_, h9⟩ | ⟨go, cap, xT, yB, _⟩
              ·omega
              ·injection yB with D h2 h3
               subst D;have y6 : ∀ k, k < 3 -> w6.cell? ⟨go, S * 3 + k, none⟩ = (cellS l)[k]? := fun k hk => by
                rw [Z.cellAt (S * 3 + k) (by omega), hL];exact cSg _ S l (by rw [<- xb]; simp) k hk
               exact ⟨go, y6 0 (by omega), y6 2 (by omega), rfl⟩
         subst yx;have HL := hid hL
         have HR : Hid (∀ cr : Bool, (cr = true ↔ l.1 = s.1 /\ l.2.2 = x) -> (cr = true ↔ ∃ L l, N j = L ++ [l] /\ l.1 = s.1 /\ l.2.2 = x)) := fun cr h => by
              rw [h];constructor
              ·intro h; exact ⟨L, l, HL.out, h.1, h.2⟩
              ·rintro ⟨L', l', D, h2, h3⟩
               rw [HL.out] at D;have := (List.append_inj' D rfl).2;cases this;exact ⟨h2, h3⟩
         rw [show ((S + 1 : Nat) : Int) = (S : Int) + 1 from rfl];have xu : (0 : Int) < (S : Int) + 1 := by omega
         have vw : decide ((0 : Int) < (S : Int) + 1) = true := decide_eq_true xu;have vH : IntKind.i64.wrap ((S : Int) + 1 - 1) = (S : Int) := by rw [show (S : Int) + 1 - 1 = (S : Int) by omega]; exact IntWalk.i64_in _ (by omega)
         have vI : IntKind.i64.wrap (S : Int) = (S : Int) := IntWalk.i64_in _ (by omega);have v2 : (S : Int) < (S : Int) + 1 := by omega
         clear hL xb Z h0 v3;by_cases h7 : l.1 = s.1
         ·have hF : ((l.1 : Int) == (s.1 : Int)) = true := by rw [h7]; exact beq_self_eq_true _
          by_cases ha : l.2.2 = x
          ·have yy : (RS l.2.2).toList = (RS x).toList := by rw [ha]
           have v4 : ((RS l.2.2).toList == (RS x).toList) = true := by rw [yy]; exact beq_self_eq_true _
           have HT : Hid (l.1 = s.1 /\ l.2.2 = x) := ⟨h7, ha⟩;clear h7 ha
           go_big_region
           all_goals
            go_wp2_with fail;go_meet;exact ⟨true, rfl, HR.out true ⟨fun _ => HT.out, fun _ => rfl⟩, 1, rfl⟩
          ·have yy : ¬ (RS l.2.2).toList = (RS x).toList := fun e => ha (RtL e)
           have v4 : ((RS l.2.2).toList == (RS x).toList) = false := by rw [beq_eq_false_iff_ne]; exact yy
           have HT : Hid (¬ (l.1 = s.1 /\ l.2.2 = x)) := fun h => ha h.2;clear h7 ha
           go_big_region
           all_goals
            go_wp2_with fail;go_meet;exact ⟨false, rfl, HR.out false ⟨fun h => (by cases h), fun h => absurd h HT.out⟩, 1, rfl⟩
         ·have hF : ((l.1 : Int) == (s.1 : Int)) = false := by rw [beq_eq_false_iff_ne]; omega
          have HT : Hid (¬ (l.1 = s.1 /\ l.2.2 = x)) := fun h => h7 h.1;clear h7
          go_big_region
          all_goals
               go_wp2_with fail;go_meet;exact ⟨false, rfl, HR.out false ⟨fun h => (by cases h), fun h => absurd h HT.out⟩, 1, rfl⟩
       case rest =>
        obtain ⟨cr, rfl, yO, nd, rfl⟩ := hcut;obtain ⟨w7, yC⟩ : ∃ X, X = w6.drewN nd := ⟨_, rfl⟩;have h5 : Below w6.heap.size w6 w7 := by rw [yC]; exact bdN w6 nd
        rw [<- yC];clear yC;have a0 := zcq h5 (Nat.lt_of_lt_of_le C yG) a0;have d0 := zcq h5 v1 d0;have d1 := zcq h5 zh.lt d1;have zr := World.block_lt_of_cell? w6 _ d2;have d2 := zcq h5 zr d2;have d3 := zcq h5 zr d3;have Y := WRA Z h5;have I := t.below h5 t.lt;have hu : Below R.heap.size R w7 := zbt hr h5;have xA := hu.size;have vs := I.lt;have xr : n <= 12 := by omega
        clear Z t zh yI hr hJ zr h5;cases cr
        ·have hh : Hid (N (j + 1) = N j ++ [(s.1, x, y)]) := by
              unfold Hid;rw [ya.out];rcases List.eq_nil_or_concat (N j) with e | ⟨L, l, e⟩
              ·rw [e, st0 y9.out HS.out]; rfl
              ·rw [List.concat_eq_append] at e
               rw [e, su0 y9.out HS.out (fun h => by have := yO.out.2 ⟨L, l, e, h.1, h.2⟩; cases this)]
         have z6 : Hid (some Bi ≠ (Value.slice po n co).ownBlock) := obN Y I (by decide)
         have HF : Hid (∀ w', Below R.heap.size w7 w' -> BoxN w' Bi 3 [.int .i64 ((j : Int) + 1)] -> w'.cell? ⟨ba, oa + kk * 3, none⟩ = some (.int .i64 (s.1 : Int)) /\ w'.cell? ⟨H.heap.size, 0, none⟩ = some (.slice (some ⟨g, 0, none⟩) E.length c5) /\ w'.cell? ⟨Bi, 0, none⟩ = some (.int .i64 ((j : Int) + 1)) /\ w'.cell? ⟨g, j, none⟩ = some (.string (RS x)) /\ w'.cell? ⟨g, j + 1, none⟩ = some (.string (RS y))) :=
              fun w' hb hx => ⟨(zcq hb C a0 :), (zcq hb xk d1 :), hx.cell 0 rfl, (zcq hb xl d2 :), (zcq hb xl d3 :)⟩
         have b0 : Below R.heap.size w7 w7.drew := (bdN w7 1).mono xA;have x2 : Below R.heap.size w7 (w7.alloc (.cells #[.int .i64 (s.1 : Int), .string (RS x), .string (RS y)] 136)).drew := ((Below.refl _ _).alloc xA _).drew;have xh : BoxN w7.drew Bi 3 [.int .i64 ((j : Int) + 1)] := I.drew;have zZ : BoxN (w7.alloc (.cells #[.int .i64 (s.1 : Int), .string (RS x), .string (RS y)] 136)).drew Bi 3 [.int .i64 ((j : Int) + 1)] := (I.alloc _).drew;clear a0 d0 d1 d2 d3;go_upto_region 28 with fail
         go_region_held3 (fun w' => w'.cell? ⟨ba, oa + kk * 3, none⟩ = some (.int .i64 (s.1 : Int)) /\ w'.cell? ⟨H.heap.size, 0, none⟩ = some (.slice (some ⟨g, 0, none⟩) E.length c5) /\ w'.cell? ⟨Bi, 0, none⟩ = some (.int .i64 ((j : Int) + 1)) /\ w'.cell? ⟨g, j, none⟩ = some (.string (RS x)) /\ w'.cell? ⟨g, j + 1, none⟩ = some (.string (RS y)))
              ((refine HF.out _ ?_ ?_ <;> with_reducible assumption))
              (first
               | (refine step_append_lies _ (by rfl) (.tmp 123) (.tmp 139) 127 (by rfl) R.heap.size 136 i0 (.agg #[.int .i64 0, .string ⟨#[]⟩, .string ⟨#[]⟩]) 3 40 Tryz.underlying127 hi zO zP zQ rfl (by decide) _ n _ (by simp [Act.eval]) (Y.alloc _) ⟨w7.heap.size, 0, none⟩ 1 1 [.int .i64 (s.1 : Int), .string (RS x), .string (RS y)] (by simp [Act.eval]) rfl (cte _ _ _ _ _) (soe _ _ _) (by omega) (by unfold maxLen; omega) (by omega) (by simp; omega) _ rfl ?_
                  intro g8 x6 w8 h6 zs xf vd;have h8 : Below R.heap.size w7 w8 := x2.grown zs (by simp; omega) (fun j hj => (Y.lt j hj).1);have hn : BoxN w8 Bi 3 [.int .i64 ((j : Int) + 1)] := zZ.gb zs (fun e => z6.out e.symm)))
         all_goals
              have zL : w8.ownsRow R.heap.size 136 3 (.slice (some ⟨g8, 0, none⟩) (n + 1) x6) (n + 1) (cSS (N (j + 1))) := by rw [hh.out, cSs]; exact h6
              have hw : Below R.heap.size R w8 := hu.trans h8;have zz := hw.size;have z5 : Hid (n + 1 = (N (j + 1)).length) := by unfold Hid; rw [hh.out, List.length_append, <- h4.out]; rfl
              have d0 := hn.cell 0 rfl;have v0 := hn.lt;clear h6 zs xf HF b0 x2 xh zZ h8 Y hu I;go_wp2_with fail
              go_roundg (E.length - (j + 1))
              case measure => omega
              case rel => exact ⟨j + 1, w8.heap.size, n + 1, rfl, .inl (by omega), Nat.le_refl _, BoxN.new _ _ _ _ rfl, zz, z5, by omega, zL.alloc _, hw.alloc zz _⟩
        ·obtain ⟨L, l, hL, h7, ha⟩ := yO.out.1 rfl
         have xt : n = L.length + 1 := by rw [h4.out, hL, List.length_append]; rfl
         obtain ⟨S, zv⟩ := zex (L.length);rw [<- zv] at xt;subst xt;have hh : Hid (N (j + 1) = L ++ [(l.1, l.2.1, y)]) := by unfold Hid; rw [ya.out, hL, sOe y9.out HS.out ⟨h7, ha⟩]
         have z5 : Hid (S + 1 = (N (j + 1)).length) := by unfold Hid; rw [hh.out, List.length_append, zv]; rfl
         obtain ⟨go, yx⟩ : ∃ go, po = some ⟨go, 0, none⟩ := by
              rcases Y.2 with ⟨_, h9⟩ | ⟨go, cap, xT, yB, _⟩
              ·omega
              ·injection yB with D h2 h3; exact ⟨go, D⟩
         subst yx
         have e2 : w7.cell? ⟨go, S * 3 + 2, none⟩ = some (.string (RS l.2.2)) := by
              rw [Y.cellAt (S * 3 + 2) (by omega), hL];exact cSg _ S l (by rw [zv]; simp) 2 (by omega)
         have xU := Y.frozenAt (S * 3 + 2);have zN := Y.stored (S * 3 + 2) (.string (RS y));have xY := (Y.lt go rfl).1;have z6 : Hid (some Bi ≠ (Value.slice (some ⟨go, 0, none⟩) (S + 1) co).ownBlock) := obN Y I (by decide);obtain ⟨w8, hc⟩ : ∃ X, X = w7.setCell ⟨go, S * 3 + 2, none⟩ (.string (RS y)) := ⟨_, rfl⟩;rw [<- hc] at zN
         have h6 : w8.ownsRow R.heap.size 136 3 (.slice (some ⟨go, 0, none⟩) (S + 1) co) (S + 1) (cSS (N (j + 1))) := by
              have D := zN.1;have e : (cSS (L ++ [l])).set (S * 3 + 2) (.string (RS y)) = cSS (N (j + 1)) := by rw [hh.out, zv, cSe L l y]
              rw [hL, e] at D;exact D
         have hn : BoxN w8 Bi 3 [.int .i64 ((j : Int) + 1)] := I.gb zN.2 (fun e => z6.out e.symm);have hw : Below R.heap.size R w8 := by rw [hc]; exact hu.setCell (p := ⟨go, S * 3 + 2, none⟩) xY _
         have zz := hw.size;have v0 := hn.lt;have xQ := hid hc;have xu : (0 : Int) <= (S : Int) := by omega
         have v2 : (S : Int) < (S : Int) + 1 := by omega
         rw [show ((S + 1 : Nat) : Int) = (S : Int) + 1 from rfl];clear hL zv zN Y I hu hc a0 d2 h7 ha;go_upto_region 29 with fail;rw [<- xQ.out];have vg := hn.cell 0 rfl;clear d0 d1 d3 e2 xU;go_wp2_with fail
         go_roundg (E.length - (j + 1))
         case measure => omega
         case rel => exact ⟨j + 1, w8.heap.size, S + 1, rfl, .inl (by omega), Nat.le_refl _, BoxN.new _ _ _ _ rfl, zz, z5, by omega, h6.alloc _, hw.alloc zz _⟩
      ·have hh : Hid (N (j + 1) = N j) := by unfold Hid; rw [ya.out, sOn zq]
       have d0 := t.cell 0 rfl;have vh : (w6.alloc (.cells #[.int .i64 ((j : Int) + 1)] 3)).cell? ⟨Bi, 0, none⟩ = some (.int .i64 ((j : Int) + 1)) := cal _ d0;clear zq;go_wp2_with fail
       go_roundg (E.length - (j + 1))
       case measure => omega
       case rel => exact ⟨j + 1, w6.heap.size, n, rfl, .inl (by omega), Nat.le_refl _, BoxN.new _ _ _ _ rfl, yG, by unfold Hid; rw [hh.out]; exact h4.out, by omega, by rw [hh.out]; exact Z.alloc _, hr.alloc yG _⟩
     ·have vb : (E.length : Int) <= (j : Int) + 1 := by omega
      have xM : Hid (j = E.length - 1) := by unfold Hid; omega
      have xr : n <= 12 := by omega
      obtain ⟨wo, v6⟩ := zex (wr : World);subst v6;have yo : RdSp wo (.slice po n co) (N j) := by
       have D : RdC 3 wo (.slice po n co) n (cSS (N j)) := RdC.of_owns hP;unfold RdSp; rw [<- h4.out]; exact D
      have xP := hid yo;obtain ⟨_, _, yA, zp⟩ := yo.cells;injection yA with hvA1 hvA2 hvA3
      subst hvA1;clear hvA2 hvA3;have zE := hid zp;clear zp yo zg hd yp;go_wp2_with fail;go_loopw [144] (fun t144 wr => ∃ q : Nat, t144 = .int .i64 q /\ q <= n /\ Below wo.heap.size wo wr) (fun t144 _ => n - (RowKit.intOf t144).toNat)
      case atStart => exact ⟨0, rfl, Nat.zero_le _, Below.refl _ _⟩
      case round =>
       obtain ⟨q, rfl, vy, ho⟩ := hrel;rcases Nat.lt_or_ge q n with h3 | h3
       ·obtain ⟨sp, yz⟩ : ∃ sp, (N j)[q]? = some sp := ⟨_, List.getElem?_eq_getElem (by rw [<- h4.out]; exact h3)⟩
        have xw := xO.out j sp (List.mem_of_getElem? yz);obtain ⟨ba, oa, rfl, C, Q⟩ := zE.out (List.ne_nil_of_length_pos (by rw [<- h4.out]; omega));obtain ⟨k0, k1, k2⟩ := Q q sp yz;have k0 := zcq ho C k0;have k1 := zcq ho C k1;have k2 := zcq ho C k2;have vz : (q : Int) < (n : Int) := by omega
        have yt : Below w.heap.size w wr := zbt hO ho;have yX := hid xw;have vJ := ho.size;clear Q yz xw;go_wp2_with fail;obtain ⟨w8, hc⟩ : ∃ X, X = wr.alloc (.cells #[.int .i64 (sp.1 : Int), .string (RS sp.2.1), .string (RS sp.2.2)] 136) := ⟨_, rfl⟩;have yq : Below wr.heap.size wr w8 := by rw [hc]; exact zal _ _
        have x8 : BoxN w8 wr.heap.size 136 [.int .i64 (sp.1 : Int), .string (RS sp.2.1), .string (RS sp.2.2)] := by rw [hc]; exact BoxN.new _ _ _ _ rfl
        rw [<- hc];have zo := zbt yt yq;have y2 := zbt ho yq;clear hc k0 k1 k2;refine (rCo sp.2.1 yX.out.1 w8 (hg.below zo)).mono ?_;rintro e w9 ⟨_, rfl, rfl, zJ⟩;have x9 := x8.below zJ x8.lt;have xj := zbt zo zJ;have xi := zbt y2 zJ;have d2 := x9.cell 2 rfl;clear yq x8 zJ zo y2;go_wp2_with fail;refine (rCo sp.2.2 yX.out.2 w9 (hg.below xj)).mono ?_;rintro e vN ⟨_, rfl, rfl, zY⟩;have yr := zbt xi zY;clear zY d2 x9;go_wp2_with fail;go_roundw
        case rel => exact ⟨q + 1, by go_num, by omega, yr⟩
        case measure =>
         show n - ((q : Int) + 1).toNat < n - (q : Int).toNat;omega
       ·have ve : (n : Int) <= (q : Int) := by omega
        have HR : Hid (RdSp wr (.slice po n co) (aSS (G T.length))) := by
         unfold Hid; rw [yK.out, <- xM.out]; exact RdC.below xP.out ho
        have yt : Below w.heap.size w wr := zbt hO ho;go_wp2_with fail;go_ret2;exact ⟨_, rfl, ⟨_, rfl, HR.out⟩, yt⟩
theorem aok (w : World) (S R : Value) (P : List PtQ) (T : List Tri) (k m : Nat) (J : RdP w S (strP P)) (I : RdT w R T) (V : MeshOK P T k) (Z : k <= m) (Y : m <= 7) (U : T.length <= 6) (a b : PtQ) (Q : SzP m a) (O : SzP m b) (X : a ≠ b) (K : Good w) :
 Calls Tryz.prog 57 #[.agg #[S, R], .agg #[.string (RS a.1), .string (RS a.2)], .agg #[.string (RS b.1), .string (RS b.2)]] w (Ret (fun r w' => ∃ v, r = .tuple #[v, .int .i64 0] /\ RdSp w' v (aLL P T a b)) w) :=
 agn w S R P T k m J I V Z (by omega) U a b Q O X (fun tr htr r hr => by
  obtain ⟨N, M, L⟩ := pIS V htr;have := wFS Y ⟨N.1.mono Z, N.2.mono Z⟩ ⟨M.1.mono Z, M.2.mono Z⟩ ⟨L.1.mono Z, L.2.mono Z⟩ Q O hr;exact ⟨this.1, this.2.1⟩) (fun i => sNS V Z Y Q O i) K
theorem cof (w : World) (N M : Value) (Q O : ByteArray) (P : List (ByteArray × ByteArray)) (T : List Tri) (K : RdP w N P) (I : RdT w M T) (Φ : Value -> World -> Prop) (b : Bool) (n : Int)
 (hΦ : ∀ r w', Φ r w' -> ∃ H m cs, r = .tuple #[.slice H m cs, .int .i64 n] /\ decide ((0 : Int) < (m : Int)) = b)
 (L : ∀ w', Below w.heap.size w w' -> Calls Tryz.prog 37 #[.agg #[N, M], .agg #[.string Q, .string O]] w' (Ret Φ w')) :
 Calls Tryz.prog 58 #[.agg #[N, M], .agg #[.string Q, .string O]] w (Ret (fun r _ => r = .tuple #[.bool b, .int .i64 n]) w) := by
 have V := hid L;have G := hid hΦ;obtain ⟨C, E, rfl, -, -, -⟩ := K.open;obtain ⟨B, D, rfl, -, -, -⟩ := I.open;clear L hΦ K I;go_enter Tryz.func58, Tryz.ntmps58;go_wp2_with fail;obtain ⟨W, S⟩ := zex ((w.alloc (.cells #[.slice C P.length E, .slice B T.length D] 35)).alloc (.cells #[.string Q, .string O] 50));have U : Below w.heap.size w W := by rw [S]; exact zal2 _ _ _
 rw [<- S];clear S;refine (V.out W U).mono ?_;rintro e z ⟨r, rfl, J, X⟩;obtain ⟨H, m, cs, rfl, Z⟩ := G.out _ _ J;have Y := zbt U X;clear J X U;rcases Nat.eq_zero_or_pos m with rfl | A
 ·obtain rfl : b = false := by rw [<- Z]; rfl
  clear Z;go_wp2_with fail;go_ret2;exact ⟨_, rfl, rfl, Y⟩
 ·have R : (0 : Int) < (m : Int) := by omega
  obtain rfl : b = true := by rw [<- Z]; exact decide_eq_true R
  clear Z;go_wp2_with fail;go_ret2;exact ⟨_, rfl, rfl, Y⟩
theorem RdI.shape {w : World} {v : Value} {l : List Int} (h : RdI .i64 w v l) : ∃ Z cs, v = .slice Z l.length cs := by
 obtain ⟨Z, cs, rfl, -, -, -⟩ := h.open;exact ⟨Z, cs, rfl⟩
theorem ck0 (w : World) (Z Y : Value) (P : List PtQ) (T : List Tri) (k : Nat) (V : RdP w Z (strP P)) (U : RdT w Y T) (R : MeshOK P T k) (p : PtQ) (X : SzP 200 p) (S : Good w) :
 Calls Tryz.prog 58 #[.agg #[Z, Y], .agg #[.string (RS p.1), .string (RS p.2)]] w (Ret (fun r _ => r = .tuple #[.bool (decide ((0 : Int) < ((locN P T p T.length).length : Int))), .int .i64 0]) w) := by
 refine cof w Z Y _ _ _ T V U _ _ 0 ?_ fun w' hb => lok w' Z Y P T k (RdC.below V hb) (RdC.below U hb) R p X (S.below hb);rintro r w' ⟨v, rfl, Q⟩;obtain ⟨O, cs, rfl⟩ := Q.shape;exact ⟨O, _, cs, rfl, rfl⟩
abbrev Knt := Rat × Rat
def cv0 (c : Knt) : List Value := [.string (RS c.1), .string (RS c.2)]
def cKn (l : List Knt) : List Value := l.flatMap cv0
theorem cKs (l : List Knt) (c : Knt) : cKn (l ++ [c]) = cKn l ++ [.string (RS c.1), .string (RS c.2)] := by simp [cKn, cv0]
theorem iKt : ((Tryz.prog).info? 78).map (fun i => (i.zero, i.size, i.bytes)) = some (some (.agg #[.string ⟨#[]⟩, .string ⟨#[]⟩]), 2, 32) := by kernel_rfl
def knotQ (P : List PtQ) (F : List Rat) (tr : Tri) (a b : PtQ) (k : Rat) : Knt := (k, onQ P F tr (towQ a.1 b.1 k, towQ a.2 b.2 k))
theorem tQS {a b x : Rat} {m n : Nat} (Z : Sz m a) (Y : Sz m b) (hx : Sz n x) : Sz (3 * m + n + 2) (towQ a b x) := by
 unfold towQ;exact (Z.add (hx.mul (Y.sub Z))).mono (by omega)
structure BoxK (z : World) (b : Nat) : Prop where
 c0 : z.cell? ⟨b, 0, none⟩ = some (.string ⟨#[]⟩)
 c1 : z.cell? ⟨b, 1, none⟩ = some (.string ⟨#[]⟩)
 f0 : z.frozen? ⟨b, 0, none⟩ = false
 f1 : z.frozen? ⟨b, 1, none⟩ = false
 lt : b < z.heap.size
theorem BoxK.of {z : World} {b : Nat} (h : BoxN z b 50 [.string ⟨#[]⟩, .string ⟨#[]⟩]) : BoxK z b := ⟨h.cell 0 rfl, h.cell 1 rfl, h.frozen 0, h.frozen 1, h.lt⟩
theorem zk1 {x z : World} (h : Below (x.alloc (.cells #[.string ⟨#[]⟩, .string ⟨#[]⟩] 50)).heap.size (x.alloc (.cells #[.string ⟨#[]⟩, .string ⟨#[]⟩] 50)) z) : BoxN z x.heap.size 50 [.string ⟨#[]⟩, .string ⟨#[]⟩] := (BoxN.new _ _ _ _ rfl).below h (by simp)
theorem zk1d {x z : World} (h : Below (x.alloc (.cells #[.string ⟨#[]⟩, .string ⟨#[]⟩] 50)).drew.heap.size (x.alloc (.cells #[.string ⟨#[]⟩, .string ⟨#[]⟩] 50)).drew z) : BoxN z x.heap.size 50 [.string ⟨#[]⟩, .string ⟨#[]⟩] := (BoxN.new x _ _ _ rfl).drew.below h (by simp)
theorem bKs {w : World} {b t : Nat} {v0 v1 : Value} (h : BoxN w b t [.string ⟨#[]⟩, .string ⟨#[]⟩]) : BoxN ((w.setCell ⟨b, 0, none⟩ v0).setCell ⟨b, 1, none⟩ v1) b t [v0, v1] := (h.set 0 v0).set 1 v1
theorem bKf {w : World} {b c t i : Nat} {l : List Value} {v : Value} (h : BoxN w b t l) (Z : b ≠ c) : BoxN (w.setCell ⟨c, i, none⟩ v) b t l :=
 (Below.heap_setCell _ _ _ b (fun e => Z e)).trans h
theorem bKn (w : World) (Z Y : Value) (t n : Nat) (X : w.heap.size = n) : BoxN (w.alloc (.cells #[Z, Y] t)) n t [Z, Y] := BoxN.new _ _ _ _ X
theorem pp0 (w W : World) (Y s r I bf : Nat) (vp vt vf : Value) (P : List PtQ) (T : List Tri) (k : Nat) (F : List Rat) (h : FieldIn w vp vt vf P T k F) (hW : Below w.heap.size w W) (hr : Good w)
 (a b : PtQ) (x : Rat) (m n : Nat) (hm : m <= 100) (hG : k <= m) (G : m <= n) (hn : n <= 200) (ha : SzP m a) (V : SzP m b) (hx : Sz n x)
 (Ba : BoxN W s 50 [.string (RS a.1), .string (RS a.2)]) (Bb : BoxN W r 50 [.string (RS b.1), .string (RS b.2)]) (Bm : BoxN W I 35 [vp, vt]) (Bf : BoxN W bf 38 [vf])
 (h7 : w.heap.size <= Y) (h8 : Y < W.heap.size) (na : s ≠ Y) (nb : r ≠ Y) (nm : I ≠ Y) (nf : bf ≠ Y)
 (t : Nat) (ht : t < T.length) (tr : Tri) (hu : tr = T[t]) (hs : SzP 600 (sTT P F tr))
 (wr : World) (L : List Knt) (vo : Value) (O : W.grownBy wr (some Y)) (Bo : BoxN wr Y 74 [vo]) (Q : wr.ownsRow W.heap.size 78 2 vo L.length (cKn L)) (hL : L.length <= 100) :
 Calls Tryz.prog 59 #[.int .i64 (t : Int), .string (RS x), .pointer (some ⟨s, 0, none⟩), .pointer (some ⟨r, 0, none⟩), .pointer (some ⟨Y, 0, none⟩), .pointer (some ⟨I, 0, none⟩), .pointer (some ⟨bf, 0, none⟩)] wr (fun e w' => ∃ v', e = .returned (.tuple #[]) /\ W.grownBy w' (some Y) /\ BoxN w' Y 74 [v'] /\ w'.ownsRow W.heap.size 78 2 v' (L.length + 1) (cKn (L ++ [knotQ P F tr a b x])) /\ ∀ (c J : Nat) (l : List Value), BoxN wr c J l -> c ≠ Y -> vo.ownBlock ≠ some c -> BoxN w' c J l) := by
 obtain ⟨i0, hi, hv, hw, hy⟩ := info_parts iKt;have hH : 0 < m := by have := h.m.kpos; omega
 have h4 : Hid (∀ w', W.grownBy w' (some Y) -> Good w') := fun w' V => hr.below (bgb hW V h7);have ho := hid fun w hg => fay a.1 b.1 x n (by omega) (by omega) (ha.1.mono G) (V.1.mono G) hx w hg
 have hp := hid fun w hg => fay a.2 b.2 x n (by omega) (by omega) (ha.2.mono G) (V.2.mono G) hx w hg
 have h5 : Hid (∀ w', W.grownBy w' (some Y) -> _) := fun w' hb' => oj0 w' vp vt vf P T k F (h.below (bgb hW hb' h7)) t t rfl ht tr hu (towQ a.1 b.1 x, towQ a.2 b.2 x) 600 (by omega) (by omega) hs ⟨(tQS ha.1 V.1 hx).mono (by omega), (tQS ha.2 V.2 hx).mono (by omega)⟩ (by omega) (h4.out w' hb')
 have hl : Hid (knotQ P F tr a b x = (x, onQ P F tr (towQ a.1 b.1 x, towQ a.2 b.2 x))) := rfl;have hE := hid Ba;have hF := hid Bb;have hh := hid Bm;have hf := hid Bf;have la := Ba.lt;have lb := Bb.lt;have lm := Bm.lt;have lf := Bf.lt;obtain ⟨pp, cp, pt, ct, pf, cf, rfl, rfl, rfl⟩ := h.open;dsimp only at h5;generalize knotQ P F tr a b x = kn at *;generalize onQ P F tr (towQ a.1 b.1 x, towQ a.2 b.2 x) = ov at *;generalize towQ a.1 b.1 x = tx at *;generalize towQ a.2 b.2 x = J at *;have z := Ba.gb O (fun e => na (Option.some.inj e).symm);have y := Bb.gb O (fun e => nb (Option.some.inj e).symm);have x0 := z.cell 0 rfl;have x1 := z.cell 1 rfl;have x2 := y.cell 0 rfl;have x3 := y.cell 1 rfl;have zs := O.size;have HS : Hid (∀ w', Below wr.heap.size wr w' -> w'.cell? ⟨s, 0, none⟩ = some (.string (RS a.1)) /\ w'.cell? ⟨s, 1, none⟩ = some (.string (RS a.2)) /\ w'.cell? ⟨r, 0, none⟩ = some (.string (RS b.1)) /\ w'.cell? ⟨r, 1, none⟩ = some (.string (RS b.2))) := fun w' V => ⟨(zcq V (Nat.lt_of_lt_of_le la zs) x0 :), (zcq V (Nat.lt_of_lt_of_le la zs) x1 :), (zcq V (Nat.lt_of_lt_of_le lb zs) x2 :), (zcq V (Nat.lt_of_lt_of_le lb zs) x3 :)⟩;have E : Below wr.heap.size wr wr.drew := bdN wr 1;have d := h4.out _ O;clear h hs ha V hx Ba Bb Bm Bf z y x0 x1 x2 x3;go_enter Tryz.func59, Tryz.ntmps59;go_upto_region 0 with fail;go_cut [9] (fun s9 wx => ∃ U : Nat, s9 = .pointer (some ⟨U, 0, none⟩) /\ wr.heap.size <= U /\ BoxN wx U 50 [.string (RS tx), .string (RS J)] /\ Below wr.heap.size wr wx)
 case first =>
  go_region_held3 (fun w' => w'.cell? ⟨s, 0, none⟩ = some (.string (RS a.1)) /\ w'.cell? ⟨s, 1, none⟩ = some (.string (RS a.2)) /\ w'.cell? ⟨r, 0, none⟩ = some (.string (RS b.1)) /\ w'.cell? ⟨r, 1, none⟩ = some (.string (RS b.2)))
   ((refine HS.out _ ?_; repeat (first | with_reducible exact C | with_reducible exact D | with_reducible exact E | with_reducible exact Below.refl _ _ | with_reducible refine Below.drew ?_ | ((with_reducible refine Below.setCell ?_ ?_ _); rotate_left; (first | omega | (simp <;> omega))) | ((with_reducible refine Below.alloc ?_ ?_ _); rotate_left; (first | exact Nat.le_refl _ | omega | (simp <;> omega))))))
   (first
     | ((with_reducible refine Calls.mono (hp.out _ (d.below ?_)) ?_); (focus repeat (first | with_reducible exact C | with_reducible exact D | with_reducible exact E | with_reducible exact Below.refl _ _ | with_reducible refine Below.drew ?_ | ((with_reducible refine Below.setCell ?_ ?_ _); rotate_left; (first | omega | (simp <;> omega))) | ((with_reducible refine Below.alloc ?_ ?_ _); rotate_left; (first | exact Nat.le_refl _ | omega | (simp <;> omega)))))
        rintro e z2 ⟨_, rfl, rfl, h1⟩;have C : Below wr.heap.size wr z2 := (by refine Below.trans ?_ (h1.mono ?_); rotate_left; (first | exact Nat.le_refl _ | omega | (simp <;> omega)); repeat (first | with_reducible exact C | with_reducible exact D | with_reducible exact E | with_reducible exact Below.refl _ _ | with_reducible refine Below.drew ?_ | ((with_reducible refine Below.setCell ?_ ?_ _); rotate_left; (first | omega | (simp <;> omega))) | ((with_reducible refine Below.alloc ?_ ?_ _); rotate_left; (first | exact Nat.le_refl _ | omega | (simp <;> omega)))));have hN := C.size;have p2 : Below z1.heap.size z1 z2 := (by refine Below.trans ?_ (h1.mono ?_); rotate_left; (first | exact Nat.le_refl _ | omega | (simp <;> omega)); repeat (first | with_reducible exact C | with_reducible exact D | with_reducible exact E | with_reducible exact Below.refl _ _ | with_reducible refine Below.drew ?_ | ((with_reducible refine Below.setCell ?_ ?_ _); rotate_left; (first | omega | (simp <;> omega))) | ((with_reducible refine Below.alloc ?_ ?_ _); rotate_left; (first | exact Nat.le_refl _ | omega | (simp <;> omega)))));have hD := p2.size
        (first | (have H8 := hid (E8.out.below p2 E8.out.lt)) | skip)
        (first | (have D8 := hid (zk1 h1)) | skip)
        (first | (have he := BoxK.of H8.out; obtain ⟨u1, u2, u3, u4, u5⟩ := he) | skip)
        (first | (have hd := BoxK.of D8.out; obtain ⟨v1, v2, v3, v4, v5⟩ := hd) | skip))
     | ((with_reducible refine Calls.mono (ho.out _ (d.below ?_)) ?_); (focus repeat (first | with_reducible exact C | with_reducible exact D | with_reducible exact E | with_reducible exact Below.refl _ _ | with_reducible refine Below.drew ?_ | ((with_reducible refine Below.setCell ?_ ?_ _); rotate_left; (first | omega | (simp <;> omega))) | ((with_reducible refine Below.alloc ?_ ?_ _); rotate_left; (first | exact Nat.le_refl _ | omega | (simp <;> omega)))))
        rintro e z1 ⟨_, rfl, rfl, X⟩;have D : Below wr.heap.size wr z1 := (by refine Below.trans ?_ (X.mono ?_); rotate_left; (first | exact Nat.le_refl _ | omega | (simp <;> omega)); repeat (first | with_reducible exact C | with_reducible exact D | with_reducible exact E | with_reducible exact Below.refl _ _ | with_reducible refine Below.drew ?_ | ((with_reducible refine Below.setCell ?_ ?_ _); rotate_left; (first | omega | (simp <;> omega))) | ((with_reducible refine Below.alloc ?_ ?_ _); rotate_left; (first | exact Nat.le_refl _ | omega | (simp <;> omega)))));have sz1 := D.size
        (first | (have E8 := hid (zk1d X)) | skip)))
  all_goals
   go_wp2_with fail;go_meet;refine ⟨_, rfl, ?_, ?_, ?_⟩
   ·first | exact Nat.le_refl _ | omega | (simp; omega) | (simp)
   ·repeat (first | with_reducible exact H8.out | with_reducible exact D8.out | with_reducible refine BoxN.drew ?_ | with_reducible refine bKs ?_ | ((with_reducible refine bKn _ _ _ _ _ ?_); (first | rfl | (simp <;> omega))) | with_reducible refine BoxN.alloc ?_ _)
   ·repeat (first | with_reducible exact C | with_reducible exact D | with_reducible exact E | with_reducible exact Below.refl _ _ | with_reducible refine Below.drew ?_ | ((with_reducible refine Below.setCell ?_ ?_ _); rotate_left; (first | omega | (simp <;> omega))) | ((with_reducible refine Below.alloc ?_ ?_ _); rotate_left; (first | exact Nat.le_refl _ | omega | (simp <;> omega))))
 case rest =>
 obtain ⟨U, rfl, h9, B9, M⟩ := hcut;obtain ⟨po, co, rfl⟩ := oRs Q;have N : Hid (∀ w', W.grownBy w' (some Y) -> BoxN w' U 50 [.string (RS tx), .string (RS J)] -> (w'.cell? ⟨I, 0, none⟩ = some (.slice pp P.length cp) /\ w'.cell? ⟨I, 1, none⟩ = some (.slice pt T.length ct)) /\ w'.cell? ⟨bf, 0, none⟩ = some (.slice pf F.length cf) /\ w'.cell? ⟨U, 0, none⟩ = some (.string (RS tx)) /\ w'.cell? ⟨U, 1, none⟩ = some (.string (RS J))) := fun w' V h9 => by
  have y1 := hh.out.gb V (fun e => nm (Option.some.inj e).symm);have y2 := hf.out.gb V (fun e => nf (Option.some.inj e).symm);exact ⟨⟨y1.cell 0 rfl, y1.cell 1 rfl⟩, y2.cell 0 rfl, h9.cell 0 rfl, h9.cell 1 rfl⟩
 have l9 := B9.lt;have n9 : U ≠ Y := by have := O.size; omega
 have g : W.grownBy wc.drew (some Y) := gbw (gbw O M) (bdN wc 1);have q : BoxN wc.drew Y 74 [.slice po L.length co] := (Bo.below M Bo.lt).drew;have B : BoxN wc.drew U 50 [.string (RS tx), .string (RS J)] := B9.drew;have hz := WRA (WRA Q M) (bdN wc 1);have d0 := q.cell 0 rfl;have hc : ∀ j, (Value.slice po L.length co).ownBlock = some j -> j ≠ U := fun j hj => by have := (Q.lt j hj).2; omega
 clear HS E d Q Bo B9;go_upto_region 1 with fail;refine AnyL.region (S := Till 9 (fun w' => (w'.cell? ⟨I, 0, none⟩ = some (.slice pp P.length cp) /\ w'.cell? ⟨I, 1, none⟩ = some (.slice pt T.length ct)) /\ w'.cell? ⟨bf, 0, none⟩ = some (.slice pf F.length cf) /\ w'.cell? ⟨U, 0, none⟩ = some (.string (RS tx)) /\ w'.cell? ⟨U, 1, none⟩ = some (.string (RS J))) (fun w' => w'.cell? ⟨Y, 0, none⟩ = some (.slice po L.length co))) (by kernel_rfl) ?_;have Z : Till 9 (fun w' => (w'.cell? ⟨I, 0, none⟩ = some (.slice pp P.length cp) /\ w'.cell? ⟨I, 1, none⟩ = some (.slice pt T.length ct)) /\ w'.cell? ⟨bf, 0, none⟩ = some (.slice pf F.length cf) /\ w'.cell? ⟨U, 0, none⟩ = some (.string (RS tx)) /\ w'.cell? ⟨U, 1, none⟩ = some (.string (RS J))) (fun w' => w'.cell? ⟨Y, 0, none⟩ = some (.slice po L.length co)) (Array.replicate 11 false) _ := ⟨N.out _ g B, fun _ => d0⟩;refine AnyL.take2 (i := 0) (oi := _) (v := ?_) rfl (by kernel_rfl) (by kernel_rfl) (by kernel_rfl) (by decide) (ok := _) rfl (by kernel_rfl) (by kernel_rfl) (fun _ _ _ h => h) (Or.inl ⟨by rfl, ?_⟩) ⟨Z.1, fun _ => Z.2 (by rfl)⟩ ?_;rotate_left
 ·intro w hq; (try dsimp only at hq); first | (go_simp; done) | (go_simp; with_reducible rfl)
 try simp only [Act.put]
 refine zlk 1 Z ?_;try simp only [Act.put]
 refine zlk 2 Z ?_;try simp only [Act.put]
 refine zlk 3 Z ?_;try simp only [Act.put]
 refine zlk 4 Z ?_;try simp only [Act.put]
 refine zlk 5 Z ?_;try simp only [Act.put]
 refine AnyL.one (i := 6) (o := _) (by kernel_rfl) rfl (fun K hK => ?_);go_simp
 (refine (h5.out _ g).mono ?_; rintro e y1 ⟨_, rfl, rfl, X⟩; have H := gbw g X; have h6 := q.below X q.lt; have A := B.below X B.lt; have h2 := WRA hz X; have d1 := h6.cell 0 rfl)
 refine hK.out _ _ ⟨N.out _ H A, fun hk => d1⟩ (fun Z => ?_);clear hK K;try simp only [Act.put]
 refine zlk 7 Z ?_;try simp only [Act.put]
 refine AnyL.one (i := 8) (o := _) (by kernel_rfl) rfl (fun K hK => ?_);go_simp;refine hK.out _ _ ⟨N.out _ (gac H _) (A.alloc _), fun hk => cal _ d1⟩ (fun Z => ?_);clear hK K;try simp only [Act.put]
 refine AnyL.one (i := 9) (o := _) (by kernel_rfl) rfl (fun K hK => ?_)
 (refine step_append_lies _ (by rfl) (.tmp 23) (.tmp 31) 74 (by rfl) W.heap.size 78 i0 (.agg #[.string ⟨#[]⟩, .string ⟨#[]⟩]) 2 32 Tryz.underlying74 hi hv hw hy rfl (by decide) _ L.length _ (by simp [Act.eval]) (h2.alloc _) ⟨y1.heap.size, 0, none⟩ 1 1 [.string (RS x), .string (RS ov)] (by simp [Act.eval]) rfl (cto _ _ _ _) (tsr _ _) (by omega) (by unfold maxLen; omega) (by omega) (by have := H.size; simp; omega) _ rfl ?_; intro g7 hA w7 h0 R hB hC; have p := (h6.alloc (.cells #[.string (RS x), .string (RS ov)] 78)).gb R (fun e => by have := (h2.lt _ e).1; omega); have h3 := (A.alloc (.cells #[.string (RS x), .string (RS ov)] 78)).gb R (fun e => hc _ e rfl); have f := ggn (gac H (.cells #[.string (RS x), .string (RS ov)] 78)) R (fun j hj => by have := (h2.lt j hj).1; omega); have hJ := p.cell 0 rfl; have hM := p.frozen 0)
 refine hK.out _ _ ⟨N.out _ f h3, fun hk => (by simp at hk)⟩ (fun Z => ?_);clear hK K;try simp only [Act.put]
 refine AnyL.one (i := 10) (o := _) (by kernel_rfl) rfl (fun K hK => ?_);go_simp;refine hK.out _ _ ⟨N.out _ (gst f 0 _) (bKf h3 n9), fun hk => (by simp at hk)⟩ (fun Z => ?_);clear hK K;try simp only [Act.put]
 refine AnyL.done (by kernel_rfl) ?_ _;all_goals
  go_wp2_with fail;go_end0;exact ⟨_, rfl, gst f 0 _, p.set 0 _, by rw [hl.out, cKs]; exact ownsRow_setCell_below h0 h8 _, fun c J l hbx hne hno => bKf ((((hbx.below M hbx.lt).drew.below X (Nat.lt_of_lt_of_le hbx.lt M.size)).alloc (.cells #[.string (RS x), .string (RS ov)] 78)).gb R (fun e => hno e)) hne⟩
theorem iP0 (a b c d : Value) (w : World) : (Instr.index 130 (.agg #[a, b, c, d]) (.int .i64 0)).run Tryz.prog w = .ok (.agg #[a, b]) w := by kernel_rfl
theorem iP1 (a b c d : Value) (w : World) : (Instr.index 130 (.agg #[a, b, c, d]) (.int .i64 1)).run Tryz.prog w = .ok (.agg #[c, d]) w := by kernel_rfl
def spanI (L : List SpanQ) (i : Nat) : SpanQ := L[i]?.getD (0, 0, 0)
def pTo (P : List PtQ) (T : List Tri) (F : List Rat) (a b : PtQ) (L : List SpanQ) : Nat -> List Knt
 | 0 => []
 | i + 1 => (pTo P T F a b L i ++ if i = 0 then [knotQ P F (triI T (spanI L i).1) a b (spanI L i).2.1] else []) ++ [knotQ P F (triI T (spanI L i).1) a b (spanI L i).2.2]
theorem pg0 (P : List PtQ) (T : List Tri) (F : List Rat) (a b : PtQ) (L : List SpanQ) (i : Nat) : (pTo P T F a b L i).length = if i = 0 then 0 else i + 1 := by
 induction i with
 | zero => rfl
 | succ i ih =>
   unfold pTo;rw [List.length_append, List.length_append, ih, if_neg (Nat.succ_ne_zero i)];by_cases h : i = 0
   ·subst h; rfl
   ·rw [if_neg h, if_neg h]; rfl
theorem cKg (l : List Knt) (i : Nat) (h : i < l.length) : (cKn l)[i * 2]? = some (.string (RS l[i].1)) /\ (cKn l)[i * 2 + 1]? = some (.string (RS l[i].2)) := by
 have e := gEf cv0 2 (fun _ => rfl) l i;constructor
 ·have := e 0 (by omega); rw [Nat.add_zero] at this; unfold cKn; rw [this, List.getElem?_eq_getElem h]; rfl
 ·have := e 1 (by omega); unfold cKn; rw [this, List.getElem?_eq_getElem h]; rfl
theorem fc0 (w : World) (vp vt vf : Value) (P : List PtQ) (T : List Tri) (k : Nat) (F : List Rat) (h : FieldIn w vp vt vf P T k F) (a b : PtQ) (m n : Nat) (hm : m <= 100) (zE : k <= m) (zF : m <= n) (hn : n <= 200) (ha : SzP m a) (hb : SzP m b) (L : List SpanQ)
 (hT : Hid (∀ w', FieldIn w' vp vt vf P T k F -> Good w' -> Calls Tryz.prog 57 #[.agg #[vp, vt], .agg #[.string (RS a.1), .string (RS a.2)], .agg #[.string (RS b.1), .string (RS b.2)]] w' (Ret (fun r w2 => ∃ v, r = .tuple #[v, .int .i64 0] /\ RdSp w2 v L) w')))
 (hU : Hid (∀ w', FieldIn w' vp vt vf P T k F -> Good w' -> Calls Tryz.prog 58 #[.agg #[vp, vt], .agg #[.string (RS a.1), .string (RS a.2)]] w' (Ret (fun r _ => r = .tuple #[.bool true, .int .i64 0]) w')))
 (hV : Hid (∀ w', FieldIn w' vp vt vf P T k F -> Good w' -> Calls Tryz.prog 58 #[.agg #[vp, vt], .agg #[.string (RS b.1), .string (RS b.2)]] w' (Ret (fun r _ => r = .tuple #[.bool true, .int .i64 0]) w')))
 (hL : L.length <= 40) (za : ∀ s ∈ L, s.1 < T.length /\ Sz n s.2.1 /\ Sz n s.2.2) (zl : ∀ tr ∈ T, SzP 600 (sTT P F tr)) (hK : ∀ Q ∈ pTo P T F a b L L.length, Sz 200 Q.1 /\ Sz 200 Q.2) (t : Good w) :
 Calls Tryz.prog 22 #[.agg #[vp, vt], vf, .agg #[.string (RS a.1), .string (RS a.2)], .agg #[.string (RS b.1), .string (RS b.2)]] w (Ret (fun r w' => ∃ v, r = .tuple #[v, .int .i64 0] /\ RdC 2 w' v (pTo P T F a b L L.length).length (cKn (pTo P T F a b L L.length))) w) := by
 have HH := hid h;have HA := hid ha;have HB := hid hb;have hw := hid za;have z4 := hid zl;have HK := hid hK;have zM := h.m.tlen;have i0 := iP0;have i1 := iP1;obtain ⟨pp, cp, pt, ct, pf, cf, rfl, rfl, rfl⟩ := h.open;clear h ha hb za zl hK;go_enter Tryz.func22, Tryz.ntmps22;go_wp2_with fail;obtain ⟨W, hW⟩ := zex (((((w.alloc (.cells #[.slice pp P.length cp, .slice pt T.length ct] 35)).alloc (.cells #[.slice pf F.length cf] 38)).alloc (.cells #[.string (RS a.1), .string (RS a.2)] 50)).alloc (.cells #[.string (RS b.1), .string (RS b.2)] 50)).alloc (.cells #[.slice pf F.length cf] 38));have hB : Below w.heap.size w W := by rw [hW]; exact (((((Below.refl _ _).alloc (Nat.le_refl _) _).alloc (by simp) _).alloc (by simp; omega) _).alloc (by simp; omega) _).alloc (by simp; omega) _
 have bv : BoxN W (w.heap.size + 1 + 1 + 1 + 1) 38 [.slice pf F.length cf] := by rw [hW]; exact BoxN.new _ _ _ _ (by simp)
 have b7 : BoxN W (w.heap.size + 1 + 1 + 1) 50 [.string (RS b.1), .string (RS b.2)] := by rw [hW]; exact (BoxN.new _ _ _ _ (by simp)).alloc _
 have b6 : BoxN W (w.heap.size + 1 + 1) 50 [.string (RS a.1), .string (RS a.2)] := by rw [hW]; exact ((BoxN.new _ _ _ _ (by simp)).alloc _).alloc _
 have b5 : BoxN W (w.heap.size + 1) 38 [.slice pf F.length cf] := by rw [hW]; exact (((BoxN.new _ _ _ _ (by simp)).alloc _).alloc _).alloc _
 have b4 : BoxN W w.heap.size 35 [.slice pp P.length cp, .slice pt T.length ct] := by rw [hW]; exact ((((BoxN.new _ _ _ _ rfl).alloc _).alloc _).alloc _).alloc _
 rw [<- hW];clear hW;refine (cg0 (HH.out.below hB) _ (bv.cell 0 rfl) (t.below hB)).mono ?_;rintro e w1 ⟨_, rfl, rfl, H⟩;have h9 := zbt hB H;have A := b7.below H b7.lt;have B := b6.below H b6.lt;have hC := b5.below H b5.lt;have D := b4.below H b4.lt;clear H hB bv b7 b6 b5 b4;have m0 := D.cell 0 rfl;have m1 := D.cell 1 rfl;have x0 := B.cell 0 rfl;have x1 := B.cell 1 rfl;have y0 := A.cell 0 rfl;have y1 := A.cell 1 rfl;go_wp2_with fail;refine (hT.out w1 (HH.out.below h9) (t.below h9)).mono ?_;rintro e w2 ⟨_, rfl, ⟨vs, rfl, zn⟩, G⟩;have hE := zbt h9 G;have J := A.below G A.lt;have K := B.below G B.lt;have h6 := hC.below G hC.lt;have M := D.below G D.lt;obtain ⟨ps, cs, rfl, zk⟩ := zn.cells;have z2 := hid zk;clear G h9 A B hC D m0 m1 x0 x1 y0 y1 zn zk hT;have x0 := K.cell 0 rfl;have x1 := K.cell 1 rfl;have y0 := J.cell 0 rfl;have y1 := J.cell 1 rfl;go_wp2_with fail;go_loopw [43] (fun t43 wr => ∃ i : Nat, t43 = .int .i64 i /\ i <= 2 /\ Below w2.heap.size w2 wr) (fun t43 _ => 2 - (RowKit.intOf t43).toNat)
 case atStart => exact ⟨0, rfl, Nat.zero_le _, Below.refl _ _⟩
 case round =>
  clear x0 x1 y0 y1;obtain ⟨i, rfl, d, V⟩ := hrel;have hd := zbt hE V;have S := M.below V M.lt;have m0 := S.cell 0 rfl;have m1 := S.cell 1 rfl;rcases (by omega : i = 0 \/ i = 1 \/ i = 2) with rfl | rfl | rfl
  ·go_upto_region 10 with fail
   obtain ⟨W3, Y⟩ : ∃ W, W = wr.alloc (.cells #[.string (RS a.1), .string (RS a.2)] 50) := ⟨_, rfl⟩;have X : Below wr.heap.size wr W3 := by rw [Y]; exact zal _ _
   have bq : BoxN W3 wr.heap.size 50 [.string (RS a.1), .string (RS a.2)] := by rw [Y]; exact BoxN.new _ _ _ _ rfl
   rw [<- Y];clear Y m0 m1;have y := zbt hd X;have C := S.below X S.lt;have m0 := C.cell 0 rfl;have m1 := C.cell 1 rfl;have x0 := bq.cell 0 rfl;have x1 := bq.cell 1 rfl;go_wp2_with fail;refine (hU.out _ (HH.out.below y) (t.below y)).mono ?_;rintro e w4 ⟨_, rfl, rfl, R⟩;have hH := ((zbt V X)).trans (R.mono ((zbt V X)).size);clear m0 m1 x0 x1;go_wp2_with fail;go_roundw
   case rel => exact ⟨1, rfl, by omega, hH⟩
   case measure => simp [RowKit.intOf]
  ·go_upto_region 10 with fail
   obtain ⟨W3, Y⟩ : ∃ W, W = wr.alloc (.cells #[.string (RS b.1), .string (RS b.2)] 50) := ⟨_, rfl⟩;have X : Below wr.heap.size wr W3 := by rw [Y]; exact zal _ _
   have bq : BoxN W3 wr.heap.size 50 [.string (RS b.1), .string (RS b.2)] := by rw [Y]; exact BoxN.new _ _ _ _ rfl
   rw [<- Y];clear Y m0 m1;have y := zbt hd X;have C := S.below X S.lt;have m0 := C.cell 0 rfl;have m1 := C.cell 1 rfl;have x0 := bq.cell 0 rfl;have x1 := bq.cell 1 rfl;go_wp2_with fail;refine (hV.out _ (HH.out.below y) (t.below y)).mono ?_;rintro e w4 ⟨_, rfl, rfl, R⟩;have hH := ((zbt V X)).trans (R.mono ((zbt V X)).size);clear m0 m1 x0 x1;go_wp2_with fail;go_roundw
   case rel => exact ⟨2, rfl, by omega, hH⟩
   case measure => simp [RowKit.intOf]
  ·clear m0 m1 S hU hV
   rw [show ((2 : Nat) : Int) = (2 : Int) from rfl];go_upto_region 17 with fail;obtain ⟨q, hf⟩ : ∃ W, W = wr.alloc (.cells #[.slice none 0 0] 74) := ⟨_, rfl⟩;have zf : Below wr.heap.size wr q := by rw [hf]; exact zal _ _
   have Bo : BoxN q wr.heap.size 74 [.slice none 0 0] := by rw [hf]; exact BoxN.new _ _ _ _ rfl
   rw [<- hf];clear hf;have I := zbt V zf;have z7 := zbt hE I;have B4 := M.below I M.lt;have B5 := h6.below I h6.lt;have B6 := K.below I K.lt;have B7 := J.below I J.lt;have lo := Bo.lt;have l4 := M.lt;have l5 := h6.lt;have l6 := K.lt;have l7 := J.lt;have hO := V.size;obtain ⟨z, hq⟩ := zex (wr.heap.size);rw [<- hq] at Bo lo hO ⊢;have hs : w.heap.size <= z := Nat.le_trans hE.size hO;have hz : Hid (∀ (i : Nat) (x : Rat), i < L.length -> Sz n x -> ∀ (wr : World) (Kn : List Knt) (O : Value), q.grownBy wr (some z) -> BoxN wr z 74 [O] -> wr.ownsRow q.heap.size 78 2 O Kn.length (cKn Kn) -> Kn.length <= 100 ->
    Calls Tryz.prog 59 #[.int .i64 ((spanI L i).1 : Int), .string (RS x), .pointer (some ⟨w.heap.size + 1 + 1, 0, none⟩), .pointer (some ⟨w.heap.size + 1 + 1 + 1, 0, none⟩), .pointer (some ⟨z, 0, none⟩), .pointer (some ⟨w.heap.size, 0, none⟩), .pointer (some ⟨w.heap.size + 1, 0, none⟩)] wr (fun e w' => ∃ v', e = .returned (.tuple #[]) /\ q.grownBy w' (some z) /\ BoxN w' z 74 [v'] /\ w'.ownsRow q.heap.size 78 2 v' (Kn.length + 1) (cKn (Kn ++ [knotQ P F (triI T (spanI L i).1) a b x])) /\ ∀ (c ty : Nat) (l : List Value), BoxN wr c ty l -> c ≠ z -> O.ownBlock ≠ some c -> BoxN w' c ty l)) := fun i x d hx wr Kn O h1 h2 h3 h4 => by
    have hN : spanI L i ∈ L := by unfold spanI; rw [List.getElem?_eq_getElem d]; exact List.getElem_mem d
    have hP := (hw.out _ hN).1;have zm := tIn T _ hP;exact pp0 w q z _ _ _ _ _ _ _ P T k F HH.out z7 t a b x m n hm zE zF hn HA.out HB.out hx B6 B7 B4 B5 hs lo (by omega) (by omega) (by omega) (by omega) _ hP _ zm (z4.out _ (by rw [zm]; exact List.getElem_mem hP)) wr Kn O h1 h2 h3 h4
   have z3 : Hid (∀ i, i < L.length -> L[i]? = some (spanI L i) /\ Sz n (spanI L i).2.1 /\ Sz n (spanI L i).2.2) := fun i d => by
    have hN : spanI L i ∈ L := by unfold spanI; rw [List.getElem?_eq_getElem d]; exact List.getElem_mem d
    exact ⟨by unfold spanI; rw [List.getElem?_eq_getElem d]; rfl, (hw.out _ hN).2⟩
   have hA : Hid (∀ i, pTo P T F a b L (i + 1) = (pTo P T F a b L i ++ if i = 0 then [knotQ P F (triI T (spanI L i).1) a b (spanI L i).2.1] else []) ++ [knotQ P F (triI T (spanI L i).1) a b (spanI L i).2.2]) := fun i => rfl;have h5 := hid (pg0 P T F a b L);have zj : pTo P T F a b L 0 = [] := rfl;obtain ⟨U, he⟩ : ∃ f, f = pTo P T F a b L := ⟨_, rfl⟩;rw [<- he] at h5 zj HK;simp only [<- he] at hA;have zz := hid he;clear he V zf hq d hw z4 HA HB M h6 K J B4 B5 B6 B7;go_wp2_with fail;go_loopw [61] (fun t61 wr => ∃ (i : Nat) (O : Value), t61 = .int .i64 i /\ i <= L.length /\ q.grownBy wr (some z) /\ BoxN wr z 74 [O] /\ wr.ownsRow q.heap.size 78 2 O (U i).length (cKn (U i))) (fun t61 _ => L.length - (RowKit.intOf t61).toNat)
   case atStart => exact ⟨0, _, rfl, Nat.zero_le _, grl _ _, Bo, by rw [zj]; exact World.ownsRow_nil _ _ _ _⟩
   case round =>
    obtain ⟨i, O, rfl, d, hl, N, Z⟩ := hrel;rcases Nat.lt_or_ge i L.length with h | h
    ·have zO : (i : Int) < (L.length : Int) := by omega
     obtain ⟨hr, zx, zy⟩ := z3.out i h;obtain ⟨bs, os, rfl, hJ, zh⟩ := z2.out (List.ne_nil_of_length_pos (by omega));obtain ⟨c0, c1, c2⟩ := zh i _ hr;have h8 := bgb I hl hO;have d0 := zcq h8 hJ c0;have d1 := zcq h8 hJ c1;have d2 := zcq h8 hJ c2;have zw : Hid (∀ wr Kn O, _) := hz.out i _ h zx;have hY : Hid (∀ wr Kn O, _) := hz.out i _ h zy;have HN := hid (hA.out i);have hu := hid (h5.out i);generalize spanI L i = sp at *;clear hr zx zy c0 c1 c2 zh h8;go_upto_region 21 with fail;obtain ⟨W4, hh⟩ : ∃ W, W = wr.alloc (.cells #[.int .i64 (sp.1 : Int), .string (RS sp.2.1), .string (RS sp.2.2)] 136) := ⟨_, rfl⟩;have R : Below wr.heap.size wr W4 := by rw [hh]; exact zal _ _
     have h7 : BoxN W4 wr.heap.size 136 [.int .i64 (sp.1 : Int), .string (RS sp.2.1), .string (RS sp.2.2)] := by rw [hh]; exact BoxN.new _ _ _ _ rfl
     rw [<- hh];clear hh d0 d1 d2;have z6 := gbw hl R;have hS := N.below R N.lt;have zq := WRA Z R;have zK : z ≠ wr.heap.size := by have := N.lt; omega
     have e0 := h7.cell 0 rfl;have e1 := h7.cell 1 rfl;have e2 := h7.cell 2 rfl;have zG : O.ownBlock ≠ some wr.heap.size := fun e => by have := (Z.lt _ e).2; omega
     have zR : (U i).length <= 60 := by rw [hu.out]; split <;> omega
     generalize knotQ P F (triI T sp.1) a b sp.2.1 = kn1 at *;generalize knotQ P F (triI T sp.1) a b sp.2.2 = kn2 at *;rcases Nat.eq_zero_or_pos i with h0 | h0
     ·have zJ : ((i : Int) == 0) = true := by simp [h0]
      have zo : (i : Int) = 0 := by omega
      have hy : Hid (U (i + 1) = (U i ++ [kn1]) ++ [kn2]) := by unfold Hid; rw [HN.out, if_pos h0]
      have H0 := hid h0;clear HN hu h0;go_wp2_with fail;refine (zw.out W4 (U i) O z6 hS zq (by omega)).mono ?_;rintro e w5 ⟨v5, rfl, zD, zt, zr, hX⟩;have z5 := hX _ _ _ h7 (fun e => zK e.symm) zG;have zs : w5.ownsRow q.heap.size 78 2 v5 (U i ++ [kn1]).length (cKn (U i ++ [kn1])) := by rw [List.length_append]; exact zr
      clear e0 e1 e2 zr hX;have e0 := z5.cell 0 rfl;have e2 := z5.cell 2 rfl;go_wp2_with fail;refine (hY.out w5 (U i ++ [kn1]) v5 zD zt zs (by rw [List.length_append]; simp; omega)).mono ?_;rintro e w6 ⟨v6, rfl, hD, ht, hR, -⟩;clear e0 e2;go_wp2_with fail;go_roundw
      case rel => exact ⟨i + 1, v6, by go_num, by omega, hD, ht, by rw [hy.out, show (U i ++ [kn1] ++ [kn2]).length = (U i ++ [kn1]).length + 1 by simp]; exact hR⟩
      case measure => simp [RowKit.intOf]; omega
     ·have zJ : ((i : Int) == 0) = false := beq_eq_false_iff_ne.2 (by omega)
      have zo : ¬ (i : Int) = 0 := by omega
      have zp : ¬ i = 0 := by omega
      have hy : Hid (U (i + 1) = U i ++ [kn2]) := by unfold Hid; rw [HN.out, if_neg zp, List.append_nil]
      clear HN hu;go_wp2_with fail;refine (hY.out W4 (U i) O z6 hS zq (by omega)).mono ?_;rintro e w6 ⟨v6, rfl, hD, ht, hR, -⟩;clear e0 e1 e2;go_wp2_with fail;go_roundw
      case rel => exact ⟨i + 1, v6, by go_num, by omega, hD, ht, by rw [hy.out, List.length_append]; exact hR⟩
      case measure => simp [RowKit.intOf]; omega
    ·obtain rfl : i = L.length := by omega
     have zN : ¬ (L.length : Int) < (L.length : Int) := Int.lt_irrefl _;obtain ⟨n, hn⟩ := zex ((U L.length).length);rw [<- hn] at Z;obtain ⟨po, co, rfl⟩ := oRs Z;have hZ : Hid (RdC 2 wr (.slice po n co) n (cKn (U L.length))) := RdC.of_owns Z;have zu : Hid (∀ j, j < n -> ∃ (Q : Knt) (g o : Nat), po = some ⟨g, o, none⟩ /\ g < wr.heap.size /\ Sz 200 Q.1 /\ Sz 200 Q.2 /\ wr.cell? ⟨g, o + j * 2, none⟩ = some (.string (RS Q.1)) /\ wr.cell? ⟨g, o + j * 2 + 1, none⟩ = some (.string (RS Q.2))) := fun j hj => by
      have hM : j < (U L.length).length := by omega
      obtain ⟨k0, k1⟩ := cKg _ j hM;obtain ⟨p, c, hv, _, _, _, h4⟩ := hZ.out;injection hv with hp _ _
      obtain ⟨g, o, zH, hc⟩ := h4 (fun e => by rw [e] at k0; cases k0);have c0 := hc _ _ k0;have c1 := hc _ _ k1;rw [<- Nat.add_assoc] at c1;exact ⟨_, g, o, hp.trans zH, World.block_lt_of_cell? wr _ c0, (HK.out _ (List.getElem_mem hM)).1, (HK.out _ (List.getElem_mem hM)).2, c0, c1⟩
     have zL : n <= 60 := by rw [hn, h5.out]; split <;> omega
     have hd := bgb z7 hl hs;have zg := N.lt;have k0 := N.cell 0 rfl;obtain ⟨wq, zI⟩ := zex (wr : World);subst zI;have HN := hid hn;clear hn h d hl Z hz z3 hA h5 z2;go_wp2_with fail;clear k0;go_loopw [83] (fun t83 wr => ∃ j : Nat, t83 = .int .i64 j /\ j <= n /\ Below wq.heap.size wq wr) (fun t83 _ => n - (RowKit.intOf t83).toNat)
     case atStart => exact ⟨0, rfl, Nat.zero_le _, Below.refl _ _⟩
     case round =>
      obtain ⟨j, rfl, hj, E⟩ := hrel;have z8 := zbt hd E;rcases Nat.lt_or_ge j n with h | h
      ·have zQ : (j : Int) < (n : Int) := by omega
       obtain ⟨Q, g, o, rfl, zi, z0, z1, c0, c1⟩ := zu.out j h;have d0 := zcq E zi c0;have d1 := zcq E zi c1;have zA := hid fun w t => rCo Q.1 z0 w t;have zB := hid fun w t => rCo Q.2 z1 w t;clear c0 c1 z0 z1;go_upto_region 28 with fail;obtain ⟨W8, hk⟩ : ∃ W, W = wr.alloc (.cells #[.string (RS Q.1), .string (RS Q.2)] 78) := ⟨_, rfl⟩;have zc : Below wr.heap.size wr W8 := by rw [hk]; exact zal _ _
       have bk : BoxN W8 wr.heap.size 78 [.string (RS Q.1), .string (RS Q.2)] := by rw [hk]; exact BoxN.new _ _ _ _ rfl
       rw [<- hk];clear hk d0 d1;have zd := zbt E zc;have ho := zbt z8 zc;have e0 := bk.cell 0 rfl;have e1 := bk.cell 1 rfl;go_wp2_with fail;refine (zA.out _ (t.below ho)).mono ?_;rintro e w9 ⟨_, rfl, rfl, hF⟩;have zC := bk.below hF bk.lt;have ze := zbt zd hF;have z9 := zbt ho hF;clear e0 e1;have e1 := zC.cell 1 rfl;go_wp2_with fail;refine (zB.out _ (t.below z9)).mono ?_;rintro e zS ⟨_, rfl, rfl, zb⟩;have hG := zbt ze zb;clear e1;go_wp2_with fail;go_roundw
       case rel => exact ⟨j + 1, by go_num, by omega, hG⟩
       case measure => simp [RowKit.intOf]; omega
      ·have zP : ¬ (j : Int) < (n : Int) := by omega
       have k0 := (N.below E zg).cell 0 rfl;have zv : Hid (RdC 2 wr (.slice po n co) (pTo P T F a b L L.length).length (cKn (pTo P T F a b L L.length))) := by
        unfold Hid; rw [<- zz.out, <- HN.out]; exact RdC.below hZ.out E
       go_wp2_with fail;go_ret2;exact ⟨_, rfl, ⟨_, rfl, zv.out⟩, z8⟩
end Go.Proofs.YtbfcmipplhkkeaaGreatDoor
