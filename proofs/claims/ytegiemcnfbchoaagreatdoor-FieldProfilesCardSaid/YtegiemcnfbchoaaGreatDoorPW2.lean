import Derived.Test.YtegiemcnfbchoaaGreatDoorPM8b
/- The walk over mesh.Along. mesh.Along The walk over mesh.Locate. -/
set_option maxHeartbeats 8000000
set_option maxRecDepth 100000
namespace Go.Proofs.YtegiemcnfbchoaaGreatDoor
open Go.RowKit Go.Lib
theorem along_gen (w : World) (vp vt : Value) (P : List PtQ) (T : List Tri) (k m : Nat) (hp : RdP w vp (strP P)) (ht : RdT w vt T) (hm : MeshOK P T k) (hkm : k <= m) (hm7 : m <= 100) (ht6 : T.length <= 6) (a b : PtQ) (za : SzP m a) (zb : SzP m b) (hab : a ≠ b) (hW : ∀ tr ∈ T, ∀ r, wFF (ptI P tr.1) (ptI P tr.2.1) (ptI P tr.2.2) a b = some r -> Sz 200 r.1 /\ Sz 200 r.2) (hSP : ∀ i, ∀ s ∈ sNN P T a b i, Sz 200 s.2.1 /\ Sz 200 s.2.2) (hg : Good w) :
 Calls Tryz.prog 12 #[.agg #[vp, vt], .agg #[.string (RS a.1), .string (RS a.2)], .agg #[.string (RS b.1), .string (RS b.2)]] w (Ret (fun r w' => ∃ v, r = .tuple #[v, .int .i64 0] /\ RdSp w' v (alongL P T a b)) w) := by
 obtain ⟨i0, hi, hz0, hz1, hz2⟩ := info_parts info_Span;obtain ⟨i1, hj, hy0, hy1, hy2⟩ := info_parts info_str;have hk0 : 0 < m := by have := hm.kpos; omega
 have HCK : Hid (∀ w', Below w.heap.size w w' -> Good w' -> Calls Tryz.prog 40 #[.agg #[vp, vt]] w' (Ret (fun r _ => r = .int .i64 0) w')) := fun w' hb hg' => check_any w' vp vt P T k (RdC.below hp hb) (RdC.below ht hb) hm hg';have HCA := hid fun w hg => cpt_ok a m za hk0 (by omega) w hg
 have HCB := hid fun w hg => cpt_ok b m zb hk0 (by omega) w hg
 have HMC : Hid (∀ (i : Nat) (tr : Tri), T[i]? = some tr -> ∀ w', Below w.heap.size w w' -> Calls Tryz.prog 43 #[.agg #[vp, vt], .int .i64 (i : Int)] w' (Ret (fun r _ => r = .agg #[.string (RS (ptI P tr.1).1), .string (RS (ptI P tr.1).2), .string (RS (ptI P tr.2.1).1), .string (RS (ptI P tr.2.1).2), .string (RS (ptI P tr.2.2).1), .string (RS (ptI P tr.2.2).2)]) w')) := fun i tr hti w' hb => by
  obtain ⟨h1, h2⟩ := List.getElem?_eq_some_iff.1 hti;exact mcorners_any w' vp vt P T k (RdC.below hp hb) (RdC.below ht hb) hm.toMeshIn i (i : Int) rfl h1 tr h2.symm
 have HWI : Hid (∀ (i : Nat) (tr : Tri), T[i]? = some tr -> ∀ w, Good w -> Calls Tryz.prog 42 #[.agg #[.string (RS (ptI P tr.1).1), .string (RS (ptI P tr.1).2), .string (RS (ptI P tr.2.1).1), .string (RS (ptI P tr.2.1).2), .string (RS (ptI P tr.2.2).1), .string (RS (ptI P tr.2.2).2)], .agg #[.string (RS a.1), .string (RS a.2)], .agg #[.string (RS b.1), .string (RS b.2)]] w (Ret (fun r _ => WithinP (wFF (ptI P tr.1) (ptI P tr.2.1) (ptI P tr.2.2) a b) r) w)) := fun i tr hti w hg => by
  obtain ⟨z0, z1, z2⟩ := ptI_SzP hm (List.mem_of_getElem? hti);exact within_gen _ _ _ a b m hk0 hm7 (hW tr (List.mem_of_getElem? hti)) ⟨z0.1.mono hkm, z0.2.mono hkm⟩ ⟨z1.1.mono hkm, z1.2.mono hkm⟩ ⟨z2.1.mono hkm, z2.2.mono hkm⟩ za zb w hg
 have HSP : Hid (∀ i, ∀ s ∈ sNN P T a b i, Sz 200 s.2.1 /\ Sz 200 s.2.2) := hSP;clear hSP;have htp := (two_pts a b).resolve_left (fun e => hab e.1);have HTP := hid htp.2;obtain ⟨AN, hAN⟩ : ∃ AN : Nat -> List SpanQ, AN = sNN P T a b := ⟨_, rfl⟩;rw [<- hAN] at HSP;have HAS : Hid (∀ (i : Nat) (tr : Tri), T[i]? = some tr -> ∀ l, wFF (ptI P tr.1) (ptI P tr.2.1) (ptI P tr.2.2) a b = some l -> AN (i + 1) = AN i ++ [(i, l.1, l.2)]) := fun i tr hti l hl => by rw [hAN, sNs, spanAt_some hti hl]
 have HAE : Hid (∀ (i : Nat) (tr : Tri), T[i]? = some tr -> wFF (ptI P tr.1) (ptI P tr.2.1) (ptI P tr.2.2) a b = none -> AN (i + 1) = AN i) := fun i tr hti hl => by rw [hAN, sNs, spanAt_none hti hl, List.append_nil]
 have HA0 : Hid (AN 0 = []) := by unfold Hid; rw [hAN]; rfl
 have HAL : Hid (∀ i, (AN i).length <= i) := fun i => by rw [hAN]; exact spansN_le P T a b i
 have HAF : Hid (alongL P T a b = alongS (AN T.length)) := by unfold Hid; rw [hAN]; rfl
 obtain ⟨pp, cp, rfl, -, -, -⟩ := hp.open;obtain ⟨pt, ct, rfl, -, -, -⟩ := ht.open;rw [sPl] at *;rw [HAF.out];have htz : (T.length : Int) <= 6 := by omega
 clear hp ht hm hkm hm7 za zb hab htp hAN hW;go_enter Tryz.func12, Tryz.ntmps12;go_wp2_with fail;obtain ⟨W0, hW0⟩ : ∃ W, W = ((w.alloc (.cells #[.slice pp P.length cp, .slice pt T.length ct] 38)).alloc (.cells #[.string (RS a.1), .string (RS a.2)] 33)).alloc (.cells #[.string (RS b.1), .string (RS b.2)] 33) := ⟨_, rfl⟩;have hB0 : Below w.heap.size w W0 := by rw [hW0]; exact (((Below.refl _ _).alloc (Nat.le_refl _) _).alloc (by simp) _).alloc (by simp; omega) _
 have b5 : BoxN W0 (w.heap.size + 1 + 1) 33 [.string (RS b.1), .string (RS b.2)] := by rw [hW0]; exact BoxN.new _ _ _ _ (by simp)
 have b4 : BoxN W0 (w.heap.size + 1) 33 [.string (RS a.1), .string (RS a.2)] := by
  rw [hW0];have h1 := (BoxN.new (w.alloc (.cells #[.slice pp P.length cp, .slice pt T.length ct] 38)) #[.string (RS a.1), .string (RS a.2)] 33 (w.heap.size + 1) (by simp));exact h1.below (zal _ _) h1.lt
 have b3 : BoxN W0 w.heap.size 38 [.slice pp P.length cp, .slice pt T.length ct] := by
  rw [hW0];have h1 := (BoxN.new w #[.slice pp P.length cp, .slice pt T.length ct] 38 _ rfl);exact (h1.below ((Below.refl _ _).alloc (Nat.le_refl _) _) h1.lt).below ((Below.refl _ _).alloc (Nat.le_refl _) _) (by simp; omega)
 rw [<- hW0];clear hW0;refine (HCK.out W0 hB0 (hg.below hB0)).mono ?_;rintro e w1 ⟨_, rfl, rfl, hb1⟩;have hB1 := hB0.trans (hb1.mono hB0.size);have b51 := b5.below hb1 b5.lt;have b41 := b4.below hb1 b4.lt;have b31 := b3.below hb1 b3.lt;clear hb1 hB0 b5 b4 b3;have x0 := b41.cell 0 rfl;have x1 := b41.cell 1 rfl;go_wp2_with fail;refine (HCA.out w1 (hg.below hB1)).mono ?_;rintro e w2 ⟨_, rfl, rfl, hb2⟩;have hB2 := hB1.trans (hb2.mono hB1.size);have b52 := b51.below hb2 b51.lt;have b42 := b41.below hb2 b41.lt;have b32 := b31.below hb2 b31.lt;clear hb2 hB1 b51 b41 b31 x0 x1;have x0 := b52.cell 0 rfl;have x1 := b52.cell 1 rfl;go_wp2_with fail;refine (HCB.out w2 (hg.below hB2)).mono ?_;rintro e w3 ⟨_, rfl, rfl, hb3⟩;have hB3 := hB2.trans (hb3.mono hB2.size);have b53 := b52.below hb3 b52.lt;have b43 := b42.below hb3 b42.lt;have b33 := b32.below hb3 b32.lt;clear hb3 hB2 b52 b42 b32 x0 x1;have x0 := b53.cell 0 rfl;have x1 := b53.cell 1 rfl;have y0 := b43.cell 0 rfl;have y1 := b43.cell 1 rfl;go_upto_region 6 with fail;go_cut [36] (fun s36 wx => s36 = .bool false /\ wx = w3)
 case first =>
  rcases HTP.out with h1 | ⟨h1, h2⟩
  all_goals
   go_wp2_with fail;go_meet;exact ⟨rfl, rfl⟩
 case rest =>
  obtain ⟨rfl, hwc⟩ := hcut;rw [hwc];clear hwc;clear x0 x1 y0 y1;have x1 := b33.cell 1 rfl;have hl33 := b33.lt;have x1a : (w3.alloc (.cells #[.slice none 0 0] 40)).cell? ⟨w.heap.size, 1, none⟩ = some (.slice pt T.length ct) := cal _ x1;go_wp2_with fail;clear x1a hl33;obtain ⟨W, hW⟩ : ∃ W, W = w3.alloc (.cells #[.slice none 0 0] 40) := ⟨_, rfl⟩;have hbW : Below w3.heap.size w3 W := by rw [hW]; exact zal _ _
  have be : BoxN W w3.heap.size 40 [.slice none 0 0] := by rw [hW]; exact BoxN.new _ _ _ _ rfl
  have HWZ : Hid (W.heap.size = w3.heap.size + 1) := by unfold Hid; rw [hW]; simp
  have hBW := hB3.trans (hbW.mono hB3.size);have B5 := hid (b53.below hbW b53.lt);have B4 := hid (b43.below hbW b43.lt);have B3 := hid (b33.below hbW b33.lt);have hM3 : w.heap.size + 1 + 1 < w3.heap.size := b53.lt;have hWz1 : w3.heap.size < W.heap.size := by rw [HWZ.out]; omega
  rw [<- hW];clear hW hbW hB3 b53 b43 b33 x1 HCK HCA HCB HTP;go_loopw [9, 40] (fun t9 t40 wr => ∃ (i nA : Nat) (vB : Value), t40 = .int .i64 i /\ i <= T.length /\ Hid (nA = (AN i).length) /\ nA <= i /\ BoxN wr w3.heap.size 40 [vB] /\ wr.ownsRow W.heap.size 54 3 t9 nA (cSS (AN i)) /\ wr.ownsRow W.heap.size 31 1 vB (2 * nA) (cellsQ (endsS (AN i))) /\ W.grownBy wr (some w3.heap.size)) (fun _ t40 _ => T.length - (RowKit.intOf t40).toNat)
  case atStart => exact ⟨0, 0, _, rfl, Nat.zero_le _, (by unfold Hid; rw [HA0.out]; rfl), Nat.le_refl _, be, by rw [HA0.out]; exact World.ownsRow_nil _ _ _ _, by rw [HA0.out]; exact World.ownsRow_nil _ _ _ _, gb_refl _ _⟩
  case round =>
   clear be;obtain ⟨i, nA, vB, rfl, hiT, HN, hni, bmr, ownA, ownB, hgb⟩ := hrel;obtain ⟨pA, cA, rfl⟩ := oRs ownA;obtain ⟨pB, cB, rfl⟩ := oRs ownB;have hbr : Below w.heap.size w wr := below_gb hBW hgb (by omega);have b3r := B3.out.gb hgb (by intro e; injection e with e; omega);have b4r := B4.out.gb hgb (by intro e; injection e with e; omega);have b5r := B5.out.gb hgb (by intro e; injection e with e; omega);rcases Nat.lt_or_ge i T.length with h | h
   ·obtain ⟨tr, htr⟩ : ∃ tr, T[i]? = some tr := ⟨_, List.getElem?_eq_getElem h⟩
    have HM := hid (HMC.out i tr htr);have HW := hid (HWI.out i tr htr);have HS := hid (HAS.out i tr htr);have HE := hid (HAE.out i tr htr);generalize ptI P tr.1 = c0 at *;generalize ptI P tr.2.1 = c1 at *;generalize ptI P tr.2.2 = c2 at *;generalize wFF c0 c1 c2 a b = l at *;have hiz : (i : Int) < (T.length : Int) := by omega
    have m0 := b3r.cell 0 rfl;have m1 := b3r.cell 1 rfl;have a0 := b4r.cell 0 rfl;have a1 := b4r.cell 1 rfl;have q0 := b5r.cell 0 rfl;have q1 := b5r.cell 1 rfl;have hl3 := b3r.lt;have hl4 := b4r.lt;have hl5 := b5r.lt;have hgd : Good wr.drew := (hg.below hbr).drewN 1;have hbd : Below w.heap.size w wr.drew := hbr.trans ((bdN wr 1).mono hbr.size);clear htr;go_upto_region 13 with fail;go_region_held3 (fun w' => w'.cell? ⟨w.heap.size, 0, none⟩ = some (.slice pp P.length cp) /\ w'.cell? ⟨w.heap.size, 1, none⟩ = some (.slice pt T.length ct) /\ w'.cell? ⟨w.heap.size + 1, 0, none⟩ = some (.string (RS a.1)) /\ w'.cell? ⟨w.heap.size + 1, 1, none⟩ = some (.string (RS a.2)) /\ w'.cell? ⟨w.heap.size + 1 + 1, 0, none⟩ = some (.string (RS b.1)) /\ w'.cell? ⟨w.heap.size + 1 + 1, 1, none⟩ = some (.string (RS b.2)))
     (first | exact ⟨m0, m1, a0, a1, q0, q1⟩ | exact ⟨p_1_0, p_1_1, p_1_2, p_1_3, p_1_4, p_1_5⟩ | exact ⟨p_2_0, p_2_1, p_2_2, p_2_3, p_2_4, p_2_5⟩)
     (first
     | (go_at_call 42; refine (HW.out _ pg1).mono ?_; rintro e pw2 ⟨_, rfl, ⟨xs, ys, rfl, hwf⟩, pb2⟩
        have p_2_0 := zct pb2 p_1_0;have p_2_1 := zct pb2 p_1_1;have p_2_2 := zct pb2 p_1_2;have p_2_3 := zct pb2 p_1_3;have p_2_4 := zct pb2 p_1_4;have p_2_5 := zct pb2 p_1_5;have ps2 := pb2.size;have pg2 := pg1.below pb2)
     | (go_at_call 43; refine (HM.out wr.drew hbd).mono ?_; rintro e pw1 ⟨_, rfl, rfl, pb1⟩
        have p_1_0 := zct pb1 m0;have p_1_1 := zct pb1 m1;have p_1_2 := zct pb1 a0;have p_1_3 := zct pb1 a1;have p_1_4 := zct pb1 q0;have p_1_5 := zct pb1 q1;have ps1 : wr.heap.size <= pw1.heap.size := pb1.size;have pg1 := hgd.below pb1))
    have pB : Below wr.heap.size wr pw2 := zbt (zbt (bdN wr 1) pb1) pb2;have bm2 := bmr.below pB bmr.lt;have ownA2 := WRA ownA pB;have ownB2 := WRA ownB pB;have hgb2 := gb_below hgb pB;have HWF := hid hwf;clear hwf bmr ownA ownB hgb pB b3r b4r b5r m0 m1 a0 a1 q0 q1 hgd hbd hbr HM HW;rcases l with _ | ⟨lo, hi'⟩
    ·have HAE1 := hid (HE.out rfl)
     clear HWF HS HE;go_wp2_with fail;go_roundw
     case rel => exact ⟨i + 1, nA, _, by go_num, by omega, (by unfold Hid; rw [HAE1.out]; exact HN.out), by omega, bm2, by rw [HAE1.out]; exact ownA2, by rw [HAE1.out]; exact ownB2, hgb2⟩
     case measure =>
      show T.length - ((i : Int) + 1).toNat < T.length - (i : Int).toNat;omega
    ·obtain ⟨ex, ey, _, _, _⟩ := HWF.out _ rfl
     dsimp only at ex ey;subst ex ey;have HAS1 := hid (HS.out _ rfl);have F : ApW W w3.heap.size (.slice pB (2 * nA) cB) (.slice pA nA cA) nA (cSS (AN i)) (.slice pB (2 * nA) cB) (2 * nA) (cellsQ (endsS (AN i))) none none [.int .i64 (i : Int), .string (RS lo), .string (RS hi')] [.string (RS lo), .string (RS hi')] pw2 :=
      ⟨ownA2, ownB2, bm2, hgb2, fun b e => by (cases e), fun b e => by (cases e)⟩
     have FA := F.alloc_a.drew;have FAB := F.alloc_a.alloc_b.drew;rw [show (pw2.alloc (.cells [Value.int .i64 (i : Int), .string (RS lo), .string (RS hi')].toArray 54)).heap.size = pw2.heap.size + 1 by simp] at FAB;have FBA := F.alloc_b.alloc_a.drew;rw [show (pw2.alloc (.cells [Value.string (RS lo), .string (RS hi')].toArray 31)).heap.size = pw2.heap.size + 1 by simp] at FBA;have kc0 := bm2.cell 0 rfl;have kcA := cal (.cells #[.int .i64 (i : Int), .string (RS lo), .string (RS hi')] 54) kc0;have kcB := cal (.cells #[.string (RS lo), .string (RS hi')] 31) kc0;have kcAB := cal (.cells #[.string (RS lo), .string (RS hi')] 31) kcA;have kcBA := cal (.cells #[.int .i64 (i : Int), .string (RS lo), .string (RS hi')] 54) kcB;have hnT : nA <= 6 := by omega
     clear HWF HS HE F bm2 ownA2 ownB2 hgb2;go_upto_region 15 with fail;rw [show Op.load 40 (.tmp 10) = id (Op.load 40 (.tmp 10)) from rfl];go_region_held3 (fun _ => True)
      (trivial)
      (first
        | (refine step_append_lies _ (by rfl) (.tmp 61) (.tmp 64) 40 (by rfl) W.heap.size 31 i1 (.string ⟨#[]⟩) 1 16 Tryz.underlying40 hj hy0 hy1 hy2 rfl (by decide) _ (2 * nA) _ (by simp [Act.eval]) G5.ob ⟨pw2.heap.size + 1, 0, none⟩ 2 2 [.string (RS lo), .string (RS hi')] (by simp [Act.eval]) rfl G5.news_b (two_one _ _) (by omega) (by unfold maxLen; omega) (by omega) G5.gb.size _ rfl ?_; intro g6 cap6 w6 hown6 hgr6 hat6 hlt6; have G6 := G5.app_b hown6 hgr6; have kc6 := G6.box.cell 0 rfl; have kf6 := G6.box.frozen 0)
        | (refine step_append_lies _ (by rfl) (.tmp 61) (.tmp 64) 40 (by rfl) W.heap.size 31 i1 (.string ⟨#[]⟩) 1 16 Tryz.underlying40 hj hy0 hy1 hy2 rfl (by decide) _ (2 * nA) _ (by simp [Act.eval]) G5.ob ⟨pw2.heap.size, 0, none⟩ 2 2 [.string (RS lo), .string (RS hi')] (by simp [Act.eval]) rfl G5.news_b (two_one _ _) (by omega) (by unfold maxLen; omega) (by omega) G5.gb.size _ rfl ?_; intro g6 cap6 w6 hown6 hgr6 hat6 hlt6; have G6 := G5.app_b hown6 hgr6; have kc6 := G6.box.cell 0 rfl; have kf6 := G6.box.frozen 0)
        | (refine step_append_lies _ (by rfl) (.tmp 61) (.tmp 64) 40 (by rfl) W.heap.size 31 i1 (.string ⟨#[]⟩) 1 16 Tryz.underlying40 hj hy0 hy1 hy2 rfl (by decide) _ (2 * nA) _ (by simp [Act.eval]) (G5.alloc_b).ob ⟨w5.heap.size, 0, none⟩ 2 2 [.string (RS lo), .string (RS hi')] (by simp [Act.eval]) rfl (G5.alloc_b).news_b (two_one _ _) (by omega) (by unfold maxLen; omega) (by omega) (G5.alloc_b).gb.size _ rfl ?_; intro g6 cap6 w6 hown6 hgr6 hat6 hlt6; have G6 := (G5.alloc_b).app_b hown6 hgr6; have kc6 := G6.box.cell 0 rfl; have kf6 := G6.box.frozen 0)
        | (refine step_append_lies _ (by rfl) (.tmp 54) (.tmp 59) 50 (by rfl) W.heap.size 54 i0 (.agg #[.int .i64 0, .string ⟨#[]⟩, .string ⟨#[]⟩]) 3 40 Tryz.underlying50 hi hz0 hz1 hz2 rfl (by decide) _ nA _ (by simp [Act.eval]) FA.oa ⟨pw2.heap.size, 0, none⟩ 1 1 [.int .i64 (i : Int), .string (RS lo), .string (RS hi')] (by simp [Act.eval]) rfl FA.news_a (span_one _ _ _) (by omega) (by unfold maxLen; omega) (by omega) FA.gb.size _ rfl ?_; intro g5 cap5 w5 hown5 hgr5 hat5 hlt5; have G5 := FA.app_a hown5 hgr5; have kc5 := G5.box.cell 0 rfl; have kc5B := cal (.cells #[.string (RS lo), .string (RS hi')] 31) kc5)
        | (refine step_append_lies _ (by rfl) (.tmp 54) (.tmp 59) 50 (by rfl) W.heap.size 54 i0 (.agg #[.int .i64 0, .string ⟨#[]⟩, .string ⟨#[]⟩]) 3 40 Tryz.underlying50 hi hz0 hz1 hz2 rfl (by decide) _ nA _ (by simp [Act.eval]) FAB.oa ⟨pw2.heap.size, 0, none⟩ 1 1 [.int .i64 (i : Int), .string (RS lo), .string (RS hi')] (by simp [Act.eval]) rfl FAB.news_a (span_one _ _ _) (by omega) (by unfold maxLen; omega) (by omega) FAB.gb.size _ rfl ?_; intro g5 cap5 w5 hown5 hgr5 hat5 hlt5; have G5 := FAB.app_a hown5 hgr5; have kc5 := G5.box.cell 0 rfl; have kc5B := cal (.cells #[.string (RS lo), .string (RS hi')] 31) kc5)
        | (refine step_append_lies _ (by rfl) (.tmp 54) (.tmp 59) 50 (by rfl) W.heap.size 54 i0 (.agg #[.int .i64 0, .string ⟨#[]⟩, .string ⟨#[]⟩]) 3 40 Tryz.underlying50 hi hz0 hz1 hz2 rfl (by decide) _ nA _ (by simp [Act.eval]) FBA.oa ⟨pw2.heap.size + 1, 0, none⟩ 1 1 [.int .i64 (i : Int), .string (RS lo), .string (RS hi')] (by simp [Act.eval]) rfl FBA.news_a (span_one _ _ _) (by omega) (by unfold maxLen; omega) (by omega) FBA.gb.size _ rfl ?_; intro g5 cap5 w5 hown5 hgr5 hat5 hlt5; have G5 := FBA.app_a hown5 hgr5; have kc5 := G5.box.cell 0 rfl; have kc5B := cal (.cells #[.string (RS lo), .string (RS hi')] 31) kc5))
     all_goals
      have HNX : Hid (nA + 1 = (AN (i + 1)).length) := by unfold Hid; rw [HAS1.out, List.length_append, <- HN.out]; rfl
      have HCX : Hid (cSS (AN i) ++ [.int .i64 (i : Int), .string (RS lo), .string (RS hi')] = cSS (AN (i + 1)) /\ cellsQ (endsS (AN i)) ++ [.string (RS lo), .string (RS hi')] = cellsQ (endsS (AN (i + 1)))) := by
       unfold Hid; rw [HAS1.out, cellsS_snoc, endsS_append];refine ⟨rfl, ?_⟩;unfold cellsQ; rw [List.map_append]; rfl
      have oA6 := G6.oa;have oB6 := G6.ob;rw [HCX.out.1] at oA6;rw [HCX.out.2] at oB6;have bx6 := G6.box.set 0 (.slice (some ⟨g6, 0, none⟩) (2 * nA + 2) cap6);have gb6 := gb_set G6.gb 0 (.slice (some ⟨g6, 0, none⟩) (2 * nA + 2) cap6);clear G5 G6 FA FAB FBA kc0 kcA kcB kcAB kcBA kc5 kc5B hgr5 hgr6 hown5 hown6;go_wp2_with fail;go_roundw
      case rel => exact ⟨i + 1, nA + 1, _, by go_num, by omega, HNX, by omega, bx6, ownsRow_setCell_below oA6 (by show w3.heap.size < W.heap.size; exact hWz1) _, by rw [show 2 * (nA + 1) = 2 * nA + 2 by omega]; exact ownsRow_setCell_below oB6 (by show w3.heap.size < W.heap.size; exact hWz1) _, gb6⟩
      case measure =>
       show T.length - ((i : Int) + 1).toNat < T.length - (i : Int).toNat;omega
   ·have hige : (T.length : Int) <= (i : Int) := by omega
    have HI : Hid (i = T.length) := by unfold Hid; omega
    obtain ⟨A, hA⟩ : ∃ A, A = AN i := ⟨_, rfl⟩;rw [<- hA] at ownA ownB HN;have HAF2 : Hid (alongS (AN T.length) = joinN A (sortD (endsS A)) ((sortD (endsS A)).length - 1)) := by unfold Hid; rw [hA, HI.out]; rfl
    have HZ : Hid (∀ s ∈ A, Sz 200 s.2.1 /\ Sz 200 s.2.2) := by unfold Hid; rw [hA]; exact HSP.out i
    have hn6 : nA <= 6 := by omega
    have hlB : (endsS A).length = 2 * nA := by rw [endsS_length, <- HN.out]
    have HLB := hid hlB;have HZE : Hid (∀ q ∈ endsS A, Sz 200 q) := endsS_Sz HZ.out;have HRV : Hid (RowV wr (.slice pB (2 * nA) cB) (endsS A)) := RowV.of_own ownB hlB.symm;have HOB : Hid (∀ g, (Value.slice pB (2 * nA) cB).ownBlock = some g -> W.heap.size <= g) := fun g e => (ownB.lt g e).1;have HOE : Hid (some w3.heap.size ≠ (Value.slice pB (2 * nA) cB).ownBlock) := obN ownB bmr (by decide);have HOA : Hid ((Value.slice pA nA cA).ownBlock = none \/ (Value.slice pA nA cA).ownBlock ≠ (Value.slice pB (2 * nA) cB).ownBlock) := owns_apart ownA ownB (by decide);have hWw : w.heap.size <= W.heap.size := by omega
    have x0 := bmr.cell 0 rfl;clear hA hlB HMC HWI HAS HAE HA0 HAL HSP b3r b4r b5r;go_wp2_with fail;refine (sortV_any w wr _ (endsS A) (by rw [HLB.out]; omega) HZE.out HRV.out hbr (fun g e => Nat.le_trans hWw (HOB.out g e)) hg).mono ?_;rintro e w4 ⟨rfl, l, hl1, hl2, hl3, hl4⟩;have hbm4 : BoxN w4 w3.heap.size 40 [.slice pB (2 * nA) cB] := bmr.gb hl4 (fun e => HOE.out e.symm);have ownA4 := ownA.kept hl4 HOA.out;have hgb4 := gb_grown hgb hl4 (fun j e => HOB.out j e);have HPM := hid hl1;have HST := hid hl2;have HRV4 := hid hl3;clear x0 bmr ownA ownB hgb hl1 hl2 hl3 hl4 HRV;have x0 := hbm4.cell 0 rfl;go_wp2_with fail;refine (compactV_any w4 _ l (by rw [HPM.out.length_eq, HLB.out]; omega) HST.out HRV4.out).mono ?_;rintro e w5 ⟨v5, rfl, hr5, ho5, hl5⟩;obtain ⟨E, hE⟩ : ∃ E, E = sortD (endsS A) := ⟨_, rfl⟩;rw [sortD_perm HPM.out, <- hE] at hr5;rw [<- hE] at HAF2;obtain ⟨p5, c5, rfl⟩ := hr5.shape;have hbm5 : BoxN w5 w3.heap.size 40 [.slice pB (2 * nA) cB] := hbm4.gb hl5 (fun e => HOE.out e.symm);have ownA5 := ownA4.kept hl5 HOA.out;have hgb5 := gb_grown hgb4 hl5 (fun j e => HOB.out j e);have HZ5 : Hid (∀ q ∈ E, Sz 200 q) := fun q hq => HZE.out q ((sortD_mem _ _).1 (by rw [<- hE]; exact hq))
    have hEl : E.length <= 12 := by rw [hE]; exact Nat.le_trans (sortD_le _) (by rw [HLB.out]; omega)
    have HO5 : Hid ((Value.slice p5 E.length c5).ownBlock ≠ some w3.heap.size) := fun e => by rw [ho5] at e; exact HOE.out e.symm
    have HR5 := hid hr5;have x5 := hbm5.cell 0 rfl;have x5f := hbm5.frozen 0;clear x0 hbm4 ownA4 hgb4 HRV4 HST HPM hl5 hr5 ho5 hE;obtain ⟨W2, hW2⟩ : ∃ X, X = w5.setCell ⟨w3.heap.size, 0, none⟩ (.slice p5 E.length c5) := ⟨_, rfl⟩;have be2 : BoxN W2 w3.heap.size 40 [.slice p5 E.length c5] := by rw [hW2]; exact hbm5.set 0 _
    have ownA2 : W2.ownsRow W.heap.size 54 3 (.slice pA nA cA) nA (cSS A) := by rw [hW2]; exact ownsRow_setCell_below ownA5 hWz1 _
    have HR2 : Hid (RowV W2 (.slice p5 E.length c5) E) := by unfold Hid; rw [hW2]; exact HR5.out.setFar _ _ _ HO5.out
    have hgb2 : W.grownBy W2 (some w3.heap.size) := by rw [hW2]; exact gb_set hgb5 0 _
    have hB2 : Below w.heap.size w W2 := below_gb hBW hgb2 (by omega);have hez := be2.lt;have HZ25 : Hid (W2.heap.size = w5.heap.size) := by unfold Hid; rw [hW2]; simp
    clear HO5 HR5 hbm5 ownA5 hgb5;go_wp2_with fail;rw [<- hW2];clear hW2 x5 x5f;obtain ⟨Jn, hJn⟩ : ∃ J : Nat -> List SpanQ, J = joinN A E := ⟨_, rfl⟩;have HJ0 : Hid (Jn 0 = []) := by unfold Hid; rw [hJn]; rfl
    have HJS : Hid (∀ j x y, E[j]? = some x -> E[j + 1]? = some y -> Jn (j + 1) = stepO A (Jn j) x y) := fun j x y hx hy => by rw [hJn]; show stepO A (joinN A E j) _ _ = _; rw [hx, hy]; rfl
    have HJL : Hid (∀ j, (Jn j).length <= j) := fun j => by rw [hJn]; exact joinN_len A E j
    have HJZ : Hid (∀ j, ∀ s ∈ Jn j, Sz 200 s.2.1 /\ Sz 200 s.2.2) := fun j => by rw [hJn]; exact joinN_Sz HZ5.out j
    have HAF3 : Hid (alongS (AN T.length) = Jn (E.length - 1)) := by unfold Hid; rw [hJn]; exact HAF2.out
    have bi0 : BoxN (W2.alloc (.cells #[.int .i64 1] 3)) W2.heap.size 3 [.int .i64 1] := BoxN.new _ _ _ _ rfl;have hbw0 : Below W2.heap.size W2 (W2.alloc (.cells #[.int .i64 1] 3)) := zal _ _;clear hJn HAF2 HI HOA HOE hgb2 HLB HZE hbr
    go_loopg [15, 16] E.length (fun gm t15 t16 wr => ∃ (j Bi n : Nat), t16 = .pointer (some ⟨Bi, 0, none⟩) /\ (j + 1 <= E.length \/ j = 0) /\ E.length - j <= gm /\ BoxN wr Bi 3 [.int .i64 ((j : Int) + 1)] /\ W2.heap.size <= Bi /\ Hid (n = (Jn j).length) /\ n <= j /\ wr.ownsRow W2.heap.size 54 3 t15 n (cSS (Jn j)) /\ Below W2.heap.size W2 wr)
    case atStart => exact ⟨0, w5.heap.size, 0, rfl, .inr rfl, by omega, by rw [<- HZ25.out]; exact bi0, by rw [HZ25.out]; exact Nat.le_refl _, (by unfold Hid; rw [HJ0.out]; rfl), Nat.le_refl _, by rw [HJ0.out]; exact World.ownsRow_nil _ _ _ _, hbw0⟩
    case round =>
     clear bi0 hbw0;obtain ⟨j, Bi, n, rfl, hj1, hjg, hbi, hBi, HNJ, hnj, hown, hbr2⟩ := hrel;obtain ⟨po, co, rfl⟩ := oRs hown;have hbw2 : Below w.heap.size w wr := hB2.trans (hbr2.mono hB2.size);have ber := be2.below hbr2 hez;have ownAr := WRA ownA2 hbr2;have hRr := HR2.out.below hbr2 HR2.out.lt;have ce := ber.cell 0 rfl;have ci := hbi.cell 0 rfl;rcases Nat.lt_or_ge (j + 1) E.length with h2 | h2
     ·obtain ⟨x, hx⟩ : ∃ x, E[j]? = some x := ⟨_, List.getElem?_eq_getElem (by omega)⟩
      obtain ⟨y, hy⟩ : ∃ y, E[j + 1]? = some y := ⟨_, List.getElem?_eq_getElem h2⟩;have HJ1 := hid (HJS.out j x y hx hy);have zx := HZ5.out x (List.mem_of_getElem? hx);have zy := HZ5.out y (List.mem_of_getElem? hy);obtain ⟨g, cap, hv, hgl, hrow⟩ := hRr.at hx;injection hv with hv1 hv2 hv3
      subst hv1 hv3;clear hv2;have hRA : RdSp wr (.slice pA nA cA) A := by unfold RdSp; rw [<- HN.out]; exact RdC.of_owns ownAr
      have HIF := hid (indexSpan_any wr (.slice pA nA cA) A hRA (by rw [<- HN.out]; omega) HZ.out w3.heap.size Bi g E.length c5 j x y zx zy h2 (by omega) ce ci (hrow j x hx).1 (hrow (j + 1) y hy).1 (hg.below hbw2));have hjz : (j : Int) + 1 < (E.length : Int) := by omega
      have HX := hid hx;have HY := hid hy;clear zx zy hRA hx hy;go_wp2_with fail;refine HIF.out.mono ?_;rintro e w6 ⟨_, rfl, hk, hb6⟩;have hbi6 := hbi.below hb6 hbi.lt;have ber6 := ber.below hb6 ber.lt;have ownA6 := WRA ownAr hb6;have hown6 := WRA hown hb6;have hbr6 : Below W2.heap.size W2 w6 := hbr2.trans (hb6.mono hbr2.size);have hrow6 := hrow.below hb6 hgl;have hli := hbi6.lt;have hzz := hbr6.size;clear hbi ber ownAr hown hbr2 hRr ce ci hrow hb6 HIF hbw2;rcases hk with ⟨kk, hfk, hkl, rfl⟩ | ⟨hfk, rfl⟩
      ·obtain ⟨s, hs⟩ : ∃ s, A[kk]? = some s := ⟨_, List.getElem?_eq_getElem hkl⟩
       have hRA6 : RdSp W2 (.slice pA nA cA) A := by unfold RdSp; rw [<- HN.out]; exact RdC.of_owns ownA2
       obtain ⟨_, _, hvA, hcA⟩ := hRA6.cells;injection hvA with hvA1 hvA2 hvA3
       subst hvA1;clear hvA2 hvA3;obtain ⟨ba, oa, rfl, hbal, hcells⟩ := hcA (List.ne_nil_of_length_pos (by omega));have a0 := zcq hbr6 hbal (hcells kk s hs).1;have hg2 : g < W2.heap.size := HR2.out.lt g rfl;have d0 := hbi6.cell 0 rfl;have d1 := ber6.cell 0 rfl;have d2 := (hrow6 j x HX.out).1;have d3 := (hrow6 (j + 1) y HY.out).1;have hkz : (kk : Int) < (nA : Int) := by rw [HN.out]; omega
       have hjz2 : (j : Int) < (E.length : Int) := by omega
       have hw1 : IntKind.i64.wrap ((j : Int) + 1 - 1) = (j : Int) := by rw [show (j : Int) + 1 - 1 = (j : Int) by omega]; exact IntWalk.i64_in _ (by omega)
       have hw2 : IntKind.i64.wrap (j : Int) = (j : Int) := IntWalk.i64_in _ (by omega);have hw3 : ((j : Int) + 1).toNat = j + 1 := by omega
       have hw4 : (0 : Int) <= (j : Int) + 1 := by omega
       have HS := hid hs;have HFK := hid hfk;clear hcells hcA hRA6 hs hfk;go_upto_region 26 with fail;go_cut [113] (fun s113 wx => ∃ cr : Bool, s113 = .bool cr /\ Hid (cr = true ↔ ∃ L l, Jn j = L ++ [l] /\ l.1 = s.1 /\ l.2.2 = x) /\ ∃ nd, wx = w6.drewN nd)
       case first =>
        rcases Nat.eq_zero_or_pos n with h0 | h0
        ·have HR : Hid (false = true ↔ ∃ L l, Jn j = L ++ [l] /\ l.1 = s.1 /\ l.2.2 = x) := by
              refine ⟨fun h => (by cases h), ?_⟩;rintro ⟨L, l, h1, _⟩;have := HNJ.out;rw [h1, List.length_append] at this;simp at this;omega
         subst h0;rw [show ((0 : Nat) : Int) = 0 from rfl];clear a0 d0 d1 d2 d3;go_region
         all_goals
              go_wp2_with fail;go_meet;exact ⟨_, rfl, HR.out, 1, rfl⟩
        ·obtain ⟨n', rfl⟩ : ∃ n', n = n' + 1 := ⟨n - 1, by omega⟩
         obtain ⟨L, l, hL⟩ : ∃ L l, Jn j = L ++ [l] := by
              rcases List.eq_nil_or_concat (Jn j) with e | ⟨L, l, e⟩
              ·have := HNJ.out; rw [e] at this; simp at this
              ·exact ⟨L, l, by rw [e, List.concat_eq_append]⟩
         have hLn : L.length = n' := by have := HNJ.out; rw [hL, List.length_append] at this; simp at this; omega
         obtain ⟨go, e0, e2, hpo⟩ : ∃ go, w6.cell? ⟨go, n' * 3, none⟩ = some (.int .i64 (l.1 : Int)) /\ w6.cell? ⟨go, n' * 3 + 2, none⟩ = some (.string (RS l.2.2)) /\ po = some ⟨go, 0, none⟩ := by
              rcases hown6.2 with ⟨_, h9⟩ | ⟨go, cap, cur, hvo, _⟩
              ·omega
              ·injection hvo with h1 h2 h3
               subst h1;have hget : ∀ k, k < 3 -> w6.cell? ⟨go, n' * 3 + k, none⟩ = (cellS l)[k]? := fun k hk => by
                rw [hown6.cellAt (n' * 3 + k) (by omega), hL];exact cellsS_get _ n' l (by rw [<- hLn]; simp) k hk
               exact ⟨go, hget 0 (by omega), hget 2 (by omega), rfl⟩
         subst hpo;have HL := hid hL
         have HR : Hid (∀ cr : Bool, (cr = true ↔ l.1 = s.1 /\ l.2.2 = x) -> (cr = true ↔ ∃ L l, Jn j = L ++ [l] /\ l.1 = s.1 /\ l.2.2 = x)) := fun cr h => by
              rw [h];constructor
              ·intro h; exact ⟨L, l, HL.out, h.1, h.2⟩
              ·rintro ⟨L', l', h1, h2, h3⟩
               rw [HL.out] at h1;have := (List.append_inj' h1 rfl).2;cases this;exact ⟨h2, h3⟩
         rw [show ((n' + 1 : Nat) : Int) = (n' : Int) + 1 from rfl];have hnz : (0 : Int) < (n' : Int) + 1 := by omega
         have hnd : decide ((0 : Int) < (n' : Int) + 1) = true := decide_eq_true hnz;have hw5 : IntKind.i64.wrap ((n' : Int) + 1 - 1) = (n' : Int) := by rw [show (n' : Int) + 1 - 1 = (n' : Int) by omega]; exact IntWalk.i64_in _ (by omega)
         have hw6 : IntKind.i64.wrap (n' : Int) = (n' : Int) := IntWalk.i64_in _ (by omega);have hn5 : (n' : Int) < (n' : Int) + 1 := by omega
         clear hL hLn hown6 h0 hnj;by_cases ht1 : l.1 = s.1
         ·have hb1 : ((l.1 : Int) == (s.1 : Int)) = true := by rw [ht1]; exact beq_self_eq_true _
          by_cases ht2 : l.2.2 = x
          ·have hs1 : (RS l.2.2).toList = (RS x).toList := by rw [ht2]
           have hs2 : ((RS l.2.2).toList == (RS x).toList) = true := by rw [hs1]; exact beq_self_eq_true _
           have HT : Hid (l.1 = s.1 /\ l.2.2 = x) := ⟨ht1, ht2⟩;clear ht1 ht2
           go_big_region
           all_goals
            go_wp2_with fail;go_meet;exact ⟨true, rfl, HR.out true ⟨fun _ => HT.out, fun _ => rfl⟩, 1, rfl⟩
          ·have hs1 : ¬ (RS l.2.2).toList = (RS x).toList := fun e => ht2 (RtL e)
           have hs2 : ((RS l.2.2).toList == (RS x).toList) = false := by rw [beq_eq_false_iff_ne]; exact hs1
           have HT : Hid (¬ (l.1 = s.1 /\ l.2.2 = x)) := fun h => ht2 h.2;clear ht1 ht2
           go_big_region
           all_goals
            go_wp2_with fail;go_meet;exact ⟨false, rfl, HR.out false ⟨fun h => (by cases h), fun h => absurd h HT.out⟩, 1, rfl⟩
         ·have hb1 : ((l.1 : Int) == (s.1 : Int)) = false := by rw [beq_eq_false_iff_ne]; omega
          have HT : Hid (¬ (l.1 = s.1 /\ l.2.2 = x)) := fun h => ht1 h.1;clear ht1
          go_big_region
          all_goals
               go_wp2_with fail;go_meet;exact ⟨false, rfl, HR.out false ⟨fun h => (by cases h), fun h => absurd h HT.out⟩, 1, rfl⟩
       case rest =>
        obtain ⟨cr, rfl, HCR, nd, rfl⟩ := hcut;obtain ⟨w7, hw7⟩ : ∃ X, X = w6.drewN nd := ⟨_, rfl⟩;have hd7 : Below w6.heap.size w6 w7 := by rw [hw7]; exact bdN w6 nd
        rw [<- hw7];clear hw7;have a0 := zcq hd7 (Nat.lt_of_lt_of_le hbal hzz) a0;have d0 := zcq hd7 hli d0;have d1 := zcq hd7 ber6.lt d1;have hgl6 := World.block_lt_of_cell? w6 _ d2;have d2 := zcq hd7 hgl6 d2;have d3 := zcq hd7 hgl6 d3;have hown7 := WRA hown6 hd7;have hbi7 := hbi6.below hd7 hbi6.lt;have hbr7 : Below W2.heap.size W2 w7 := hbr6.trans (hd7.mono hbr6.size);have hz7 := hbr7.size;have hl7 := hbi7.lt;have hn12 : n <= 12 := by omega
        clear hown6 hbi6 ber6 ownA6 hbr6 hrow6 hgl6 hd7;cases cr
        ·have HJX : Hid (Jn (j + 1) = Jn j ++ [(s.1, x, y)]) := by
              unfold Hid;rw [HJ1.out];rcases List.eq_nil_or_concat (Jn j) with e | ⟨L, l, e⟩
              ·rw [e, stepO_nil HFK.out HS.out]; rfl
              ·rw [List.concat_eq_append] at e
               rw [e, stepO_new HFK.out HS.out (fun h => by have := HCR.out.2 ⟨L, l, e, h.1, h.2⟩; cases this)]
         have HOB2 : Hid (some Bi ≠ (Value.slice po n co).ownBlock) := obN hown7 hbi7 (by decide)
         have HF : Hid (∀ w', Below W2.heap.size w7 w' -> BoxN w' Bi 3 [.int .i64 ((j : Int) + 1)] -> w'.cell? ⟨ba, oa + kk * 3, none⟩ = some (.int .i64 (s.1 : Int)) /\ w'.cell? ⟨w3.heap.size, 0, none⟩ = some (.slice (some ⟨g, 0, none⟩) E.length c5) /\ w'.cell? ⟨Bi, 0, none⟩ = some (.int .i64 ((j : Int) + 1)) /\ w'.cell? ⟨g, j, none⟩ = some (.string (RS x)) /\ w'.cell? ⟨g, j + 1, none⟩ = some (.string (RS y))) :=
              fun w' hb hx => ⟨(zcq hb hbal a0 :), (zcq hb hez d1 :), hx.cell 0 rfl, (zcq hb hg2 d2 :), (zcq hb hg2 d3 :)⟩
         have b0 : Below W2.heap.size w7 w7.drew := (bdN w7 1).mono hz7;have b0a : Below W2.heap.size w7 (w7.alloc (.cells #[.int .i64 (s.1 : Int), .string (RS x), .string (RS y)] 54)).drew := ((Below.refl _ _).alloc hz7 _).drew;have hbiD : BoxN w7.drew Bi 3 [.int .i64 ((j : Int) + 1)] := hbi7.drew;have hbiA : BoxN (w7.alloc (.cells #[.int .i64 (s.1 : Int), .string (RS x), .string (RS y)] 54)).drew Bi 3 [.int .i64 ((j : Int) + 1)] := (hbi7.alloc _).drew;clear a0 d0 d1 d2 d3;go_upto_region 28 with fail
         go_region_held3 (fun w' => w'.cell? ⟨ba, oa + kk * 3, none⟩ = some (.int .i64 (s.1 : Int)) /\ w'.cell? ⟨w3.heap.size, 0, none⟩ = some (.slice (some ⟨g, 0, none⟩) E.length c5) /\ w'.cell? ⟨Bi, 0, none⟩ = some (.int .i64 ((j : Int) + 1)) /\ w'.cell? ⟨g, j, none⟩ = some (.string (RS x)) /\ w'.cell? ⟨g, j + 1, none⟩ = some (.string (RS y)))
              ((refine HF.out _ ?_ ?_ <;> with_reducible assumption))
              (first
               | (refine step_append_lies _ (by rfl) (.tmp 123) (.tmp 139) 50 (by rfl) W2.heap.size 54 i0 (.agg #[.int .i64 0, .string ⟨#[]⟩, .string ⟨#[]⟩]) 3 40 Tryz.underlying50 hi hz0 hz1 hz2 rfl (by decide) _ n _ (by simp [Act.eval]) (hown7.alloc _) ⟨w7.heap.size, 0, none⟩ 1 1 [.int .i64 (s.1 : Int), .string (RS x), .string (RS y)] (by simp [Act.eval]) rfl (cell_three _ _ _ _ _) (span_one _ _ _) (by omega) (by unfold maxLen; omega) (by omega) (by simp; omega) _ rfl ?_
                  intro g8 cap8 w8 hown8 hgr8 hat8 hlt8;have h8 : Below W2.heap.size w7 w8 := b0a.grown hgr8 (by simp; omega) (fun j hj => (hown7.lt j hj).1);have hbi8 : BoxN w8 Bi 3 [.int .i64 ((j : Int) + 1)] := hbiA.gb hgr8 (fun e => HOB2.out e.symm)))
         all_goals
              have hown8' : w8.ownsRow W2.heap.size 54 3 (.slice (some ⟨g8, 0, none⟩) (n + 1) cap8) (n + 1) (cSS (Jn (j + 1))) := by rw [HJX.out, cellsS_snoc]; exact hown8
              have hbr8 : Below W2.heap.size W2 w8 := hbr7.trans h8;have hz8 := hbr8.size;have HNX : Hid (n + 1 = (Jn (j + 1)).length) := by unfold Hid; rw [HJX.out, List.length_append, <- HNJ.out]; rfl
              have d0 := hbi8.cell 0 rfl;have hl8 := hbi8.lt;clear hown8 hgr8 hat8 HF b0 b0a hbiD hbiA h8 hown7 hbr7 hbi7;go_wp2_with fail
              go_roundg (E.length - (j + 1))
              case measure => omega
              case rel => exact ⟨j + 1, w8.heap.size, n + 1, rfl, .inl (by omega), Nat.le_refl _, BoxN.new _ _ _ _ rfl, hz8, HNX, by omega, hown8'.alloc _, hbr8.alloc hz8 _⟩
        ·obtain ⟨L, l, hL, ht1, ht2⟩ := HCR.out.1 rfl
         have hnL : n = L.length + 1 := by rw [HNJ.out, hL, List.length_append]; rfl
         obtain ⟨n', hn'⟩ : ∃ n', n' = L.length := ⟨_, rfl⟩;rw [<- hn'] at hnL;subst hnL;have HJX : Hid (Jn (j + 1) = L ++ [(l.1, l.2.1, y)]) := by unfold Hid; rw [HJ1.out, hL, stepO_ext HFK.out HS.out ⟨ht1, ht2⟩]
         have HNX : Hid (n' + 1 = (Jn (j + 1)).length) := by unfold Hid; rw [HJX.out, List.length_append, hn']; rfl
         obtain ⟨go, hpo⟩ : ∃ go, po = some ⟨go, 0, none⟩ := by
              rcases hown7.2 with ⟨_, h9⟩ | ⟨go, cap, cur, hvo, _⟩
              ·omega
              ·injection hvo with h1 h2 h3; exact ⟨go, h1⟩
         subst hpo
         have e2 : w7.cell? ⟨go, n' * 3 + 2, none⟩ = some (.string (RS l.2.2)) := by
              rw [hown7.cellAt (n' * 3 + 2) (by omega), hL];exact cellsS_get _ n' l (by rw [hn']; simp) 2 (by omega)
         have e2f := hown7.frozenAt (n' * 3 + 2);have hst := hown7.stored (n' * 3 + 2) (.string (RS y));have hgo := (hown7.lt go rfl).1;have HOB2 : Hid (some Bi ≠ (Value.slice (some ⟨go, 0, none⟩) (n' + 1) co).ownBlock) := obN hown7 hbi7 (by decide);obtain ⟨w8, hw8⟩ : ∃ X, X = w7.setCell ⟨go, n' * 3 + 2, none⟩ (.string (RS y)) := ⟨_, rfl⟩;rw [<- hw8] at hst
         have hown8 : w8.ownsRow W2.heap.size 54 3 (.slice (some ⟨go, 0, none⟩) (n' + 1) co) (n' + 1) (cSS (Jn (j + 1))) := by
              have h1 := hst.1;have e : (cSS (L ++ [l])).set (n' * 3 + 2) (.string (RS y)) = cSS (Jn (j + 1)) := by rw [HJX.out, hn', cellsS_ext L l y]
              rw [hL, e] at h1;exact h1
         have hbi8 : BoxN w8 Bi 3 [.int .i64 ((j : Int) + 1)] := hbi7.gb hst.2 (fun e => HOB2.out e.symm);have hbr8 : Below W2.heap.size W2 w8 := by rw [hw8]; exact hbr7.setCell (p := ⟨go, n' * 3 + 2, none⟩) hgo _
         have hz8 := hbr8.size;have hl8 := hbi8.lt;have HW8 := hid hw8;have hnz : (0 : Int) <= (n' : Int) := by omega
         have hn5 : (n' : Int) < (n' : Int) + 1 := by omega
         rw [show ((n' + 1 : Nat) : Int) = (n' : Int) + 1 from rfl];clear hL hn' hst hown7 hbi7 hbr7 hw8 a0 d2 ht1 ht2;go_upto_region 29 with fail;rw [<- HW8.out];have d0' := hbi8.cell 0 rfl;clear d0 d1 d3 e2 e2f;go_wp2_with fail
         go_roundg (E.length - (j + 1))
         case measure => omega
         case rel => exact ⟨j + 1, w8.heap.size, n' + 1, rfl, .inl (by omega), Nat.le_refl _, BoxN.new _ _ _ _ rfl, hz8, HNX, by omega, hown8.alloc _, hbr8.alloc hz8 _⟩
      ·have HJX : Hid (Jn (j + 1) = Jn j) := by unfold Hid; rw [HJ1.out, stepO_none hfk]
       have d0 := hbi6.cell 0 rfl;have d0a : (w6.alloc (.cells #[.int .i64 ((j : Int) + 1)] 3)).cell? ⟨Bi, 0, none⟩ = some (.int .i64 ((j : Int) + 1)) := cal _ d0;clear hfk;go_wp2_with fail
       go_roundg (E.length - (j + 1))
       case measure => omega
       case rel => exact ⟨j + 1, w6.heap.size, n, rfl, .inl (by omega), Nat.le_refl _, BoxN.new _ _ _ _ rfl, hzz, by unfold Hid; rw [HJX.out]; exact HNJ.out, by omega, by rw [HJX.out]; exact hown6.alloc _, hbr6.alloc hzz _⟩
     ·have hjge : (E.length : Int) <= (j : Int) + 1 := by omega
      have HJE : Hid (j = E.length - 1) := by unfold Hid; omega
      have hn12 : n <= 12 := by omega
      obtain ⟨wo, hwo⟩ : ∃ wo : World, wo = wr := ⟨_, rfl⟩;subst hwo;have hRS : RdSp wo (.slice po n co) (Jn j) := by
       have h1 : RdC 3 wo (.slice po n co) n (cSS (Jn j)) := RdC.of_owns hown;unfold RdSp; rw [<- HNJ.out]; exact h1
      have HRS := hid hRS;obtain ⟨_, _, hvA, hcA⟩ := hRS.cells;injection hvA with hvA1 hvA2 hvA3
      subst hvA1;clear hvA2 hvA3;have HCA := hid hcA;clear hcA hRS ber ownAr hRr;go_wp2_with fail;go_loopw [144] (fun t144 wr => ∃ q : Nat, t144 = .int .i64 q /\ q <= n /\ Below wo.heap.size wo wr) (fun t144 _ => n - (RowKit.intOf t144).toNat)
      case atStart => exact ⟨0, rfl, Nat.zero_le _, Below.refl _ _⟩
      case round =>
       obtain ⟨q, rfl, hqn, hbq⟩ := hrel;rcases Nat.lt_or_ge q n with h3 | h3
       ·obtain ⟨sp, hsp⟩ : ∃ sp, (Jn j)[q]? = some sp := ⟨_, List.getElem?_eq_getElem (by rw [<- HNJ.out]; exact h3)⟩
        have hsz := HJZ.out j sp (List.mem_of_getElem? hsp);obtain ⟨ba, oa, rfl, hbal, hcells⟩ := HCA.out (List.ne_nil_of_length_pos (by rw [<- HNJ.out]; omega));obtain ⟨k0, k1, k2⟩ := hcells q sp hsp;have k0 := zcq hbq hbal k0;have k1 := zcq hbq hbal k1;have k2 := zcq hbq hbal k2;have hqz : (q : Int) < (n : Int) := by omega
        have hbw : Below w.heap.size w wr := hbw2.trans (hbq.mono hbw2.size);have HSZ := hid hsz;have hzq := hbq.size;clear hcells hsp hsz;go_wp2_with fail;obtain ⟨w8, hw8⟩ : ∃ X, X = wr.alloc (.cells #[.int .i64 (sp.1 : Int), .string (RS sp.2.1), .string (RS sp.2.2)] 54) := ⟨_, rfl⟩;have hb8 : Below wr.heap.size wr w8 := by rw [hw8]; exact zal _ _
        have x8 : BoxN w8 wr.heap.size 54 [.int .i64 (sp.1 : Int), .string (RS sp.2.1), .string (RS sp.2.2)] := by rw [hw8]; exact BoxN.new _ _ _ _ rfl
        rw [<- hw8];have hbw8 := hbw.trans (hb8.mono hbw.size);have hbq8 := hbq.trans (hb8.mono hbq.size);clear hw8 k0 k1 k2;refine (ratChk_ok sp.2.1 HSZ.out.1 w8 (hg.below hbw8)).mono ?_;rintro e w9 ⟨_, rfl, rfl, hb9⟩;have x9 := x8.below hb9 x8.lt;have hbw9 := hbw8.trans (hb9.mono hbw8.size);have hbq9 := hbq8.trans (hb9.mono hbq8.size);have d2 := x9.cell 2 rfl;clear hb8 x8 hb9 hbw8 hbq8;go_wp2_with fail;refine (ratChk_ok sp.2.2 HSZ.out.2 w9 (hg.below hbw9)).mono ?_;rintro e w10 ⟨_, rfl, rfl, hb10⟩;have hbq10 := hbq9.trans (hb10.mono hbq9.size);clear hb10 d2 x9;go_wp2_with fail;go_roundw
        case rel => exact ⟨q + 1, by go_num, by omega, hbq10⟩
        case measure =>
         show n - ((q : Int) + 1).toNat < n - (q : Int).toNat;omega
       ·have hqge : (n : Int) <= (q : Int) := by omega
        have HR : Hid (RdSp wr (.slice po n co) (alongS (AN T.length))) := by
         unfold Hid; rw [HAF3.out, <- HJE.out]; exact RdC.below HRS.out hbq
        have hbw : Below w.heap.size w wr := hbw2.trans (hbq.mono hbw2.size);go_wp2_with fail;go_ret2;exact ⟨_, rfl, ⟨_, rfl, HR.out⟩, hbw⟩
theorem along_ok (w : World) (vp vt : Value) (P : List PtQ) (T : List Tri) (k m : Nat) (hp : RdP w vp (strP P)) (ht : RdT w vt T) (hm : MeshOK P T k) (hkm : k <= m) (hm7 : m <= 7) (ht6 : T.length <= 6) (a b : PtQ) (za : SzP m a) (zb : SzP m b) (hab : a ≠ b) (hg : Good w) :
 Calls Tryz.prog 12 #[.agg #[vp, vt], .agg #[.string (RS a.1), .string (RS a.2)], .agg #[.string (RS b.1), .string (RS b.2)]] w (Ret (fun r w' => ∃ v, r = .tuple #[v, .int .i64 0] /\ RdSp w' v (alongL P T a b)) w) :=
 along_gen w vp vt P T k m hp ht hm hkm (by omega) ht6 a b za zb hab (fun tr htr r hr => by
  obtain ⟨z0, z1, z2⟩ := ptI_SzP hm htr;have := withinF_Sz hm7 ⟨z0.1.mono hkm, z0.2.mono hkm⟩ ⟨z1.1.mono hkm, z1.2.mono hkm⟩ ⟨z2.1.mono hkm, z2.2.mono hkm⟩ za zb hr;exact ⟨this.1, this.2.1⟩) (fun i => spansN_Sz hm hkm hm7 za zb i) hg
theorem along_number (w : World) (vp vt : Value) (P : List PtQ) (T : List Tri) (k m : Nat) (hp : RdP w vp (strP P)) (ht : RdT w vt T) (hm : MeshOK P T k) (hk0 : 0 < m) (hm7 : m <= 200) (a : PtQ) (za : SzP m a) (px py : ByteArray) (hx : px.size < 1000000000) (hy : py.size < 1000000000) (he : eNm (allQ [px, py]) = 2) (hg : Good w) :
 Calls Tryz.prog 12 #[.agg #[vp, vt], .agg #[.string (RS a.1), .string (RS a.2)], .agg #[.string px, .string py]] w (Ret (fun r _ => r = .tuple #[.slice none 0 0, .int .i64 2]) w) := by
 have HCK : Hid (∀ w', Below w.heap.size w w' -> Good w' -> Calls Tryz.prog 40 #[.agg #[vp, vt]] w' (Ret (fun r _ => r = .int .i64 0) w')) := fun w' hb hg' => check_any w' vp vt P T k (RdC.below hp hb) (RdC.below ht hb) hm hg';have HCA := hid fun w hg => cpt_ok a m za hk0 (by omega) w hg
 have HCB := hid fun w hg => cPa px py hx hy w hg;rw [he] at HCB;clear he hx hy;obtain ⟨pp, cp, rfl, -, -, -⟩ := hp.open;obtain ⟨pt, ct, rfl, -, -, -⟩ := ht.open;rw [sPl] at *;clear hp ht hm hm7 za;go_enter Tryz.func12, Tryz.ntmps12;go_wp2_with fail;obtain ⟨W0, hW0⟩ : ∃ W, W = ((w.alloc (.cells #[.slice pp P.length cp, .slice pt T.length ct] 38)).alloc (.cells #[.string (RS a.1), .string (RS a.2)] 33)).alloc (.cells #[.string px, .string py] 33) := ⟨_, rfl⟩;have hB0 : Below w.heap.size w W0 := by rw [hW0]; exact (((Below.refl _ _).alloc (Nat.le_refl _) _).alloc (by simp) _).alloc (by simp; omega) _
 have b5 : BoxN W0 (w.heap.size + 1 + 1) 33 [.string px, .string py] := by rw [hW0]; exact BoxN.new _ _ _ _ (by simp)
 have b4 : BoxN W0 (w.heap.size + 1) 33 [.string (RS a.1), .string (RS a.2)] := by
  rw [hW0];have h1 := (BoxN.new (w.alloc (.cells #[.slice pp P.length cp, .slice pt T.length ct] 38)) #[.string (RS a.1), .string (RS a.2)] 33 (w.heap.size + 1) (by simp));exact h1.below (zal _ _) h1.lt
 rw [<- hW0];clear hW0;refine (HCK.out W0 hB0 (hg.below hB0)).mono ?_;rintro e w1 ⟨_, rfl, rfl, hb1⟩;have hB1 := hB0.trans (hb1.mono hB0.size);have b51 := b5.below hb1 b5.lt;have b41 := b4.below hb1 b4.lt;clear hb1 hB0 b5 b4;have x0 := b41.cell 0 rfl;have x1 := b41.cell 1 rfl;go_wp2_with fail;refine (HCA.out w1 (hg.below hB1)).mono ?_;rintro e w2 ⟨_, rfl, rfl, hb2⟩;have hB2 := hB1.trans (hb2.mono hB1.size);have b52 := b51.below hb2 b51.lt;have b42 := b41.below hb2 b41.lt;clear hb2 hB1 b51 b41 x0 x1;have x0 := b52.cell 0 rfl;have x1 := b52.cell 1 rfl;go_wp2_with fail;refine (HCB.out w2 (hg.below hB2)).mono ?_;rintro e w3 ⟨_, rfl, rfl, hb3⟩;have hB3 := hB2.trans (hb3.mono hB2.size);go_wp2_with fail;go_ret2;exact ⟨_, rfl, rfl, hB3⟩
theorem along_zero (w : World) (vp vt : Value) (P : List PtQ) (T : List Tri) (k m : Nat) (hp : RdP w vp (strP P)) (ht : RdT w vt T) (hm : MeshOK P T k) (hk0 : 0 < m) (hm7 : m <= 200) (a : PtQ) (za : SzP m a) (hg : Good w) :
 Calls Tryz.prog 12 #[.agg #[vp, vt], .agg #[.string (RS a.1), .string (RS a.2)], .agg #[.string (RS a.1), .string (RS a.2)]] w (Ret (fun r _ => r = .tuple #[.slice none 0 0, .int .i64 17]) w) := by
 have HCK : Hid (∀ w', Below w.heap.size w w' -> Good w' -> Calls Tryz.prog 40 #[.agg #[vp, vt]] w' (Ret (fun r _ => r = .int .i64 0) w')) := fun w' hb hg' => check_any w' vp vt P T k (RdC.below hp hb) (RdC.below ht hb) hm hg';have HCA := hid fun w hg => cpt_ok a m za hk0 (by omega) w hg
 obtain ⟨pp, cp, rfl, -, -, -⟩ := hp.open;obtain ⟨pt, ct, rfl, -, -, -⟩ := ht.open;rw [sPl] at *;clear hp ht hm hm7 za;go_enter Tryz.func12, Tryz.ntmps12;go_wp2_with fail;obtain ⟨W0, hW0⟩ : ∃ W, W = ((w.alloc (.cells #[.slice pp P.length cp, .slice pt T.length ct] 38)).alloc (.cells #[.string (RS a.1), .string (RS a.2)] 33)).alloc (.cells #[.string (RS a.1), .string (RS a.2)] 33) := ⟨_, rfl⟩;have hB0 : Below w.heap.size w W0 := by rw [hW0]; exact (((Below.refl _ _).alloc (Nat.le_refl _) _).alloc (by simp) _).alloc (by simp; omega) _
 have b5 : BoxN W0 (w.heap.size + 1 + 1) 33 [.string (RS a.1), .string (RS a.2)] := by rw [hW0]; exact BoxN.new _ _ _ _ (by simp)
 have b4 : BoxN W0 (w.heap.size + 1) 33 [.string (RS a.1), .string (RS a.2)] := by
  rw [hW0];have h1 := (BoxN.new (w.alloc (.cells #[.slice pp P.length cp, .slice pt T.length ct] 38)) #[.string (RS a.1), .string (RS a.2)] 33 (w.heap.size + 1) (by simp));exact h1.below (zal _ _) h1.lt
 rw [<- hW0];clear hW0;refine (HCK.out W0 hB0 (hg.below hB0)).mono ?_;rintro e w1 ⟨_, rfl, rfl, hb1⟩;have hB1 := hB0.trans (hb1.mono hB0.size);have b51 := b5.below hb1 b5.lt;have b41 := b4.below hb1 b4.lt;clear hb1 hB0 b5 b4;have x0 := b41.cell 0 rfl;have x1 := b41.cell 1 rfl;go_wp2_with fail;refine (HCA.out w1 (hg.below hB1)).mono ?_;rintro e w2 ⟨_, rfl, rfl, hb2⟩;have hB2 := hB1.trans (hb2.mono hB1.size);have b52 := b51.below hb2 b51.lt;have b42 := b41.below hb2 b41.lt;clear hb2 hB1 b51 b41 x0 x1;have x0 := b52.cell 0 rfl;have x1 := b52.cell 1 rfl;go_wp2_with fail;refine (HCA.out w2 (hg.below hB2)).mono ?_;rintro e w3 ⟨_, rfl, rfl, hb3⟩;have hB3 := hB2.trans (hb3.mono hB2.size);have b53 := b52.below hb3 b52.lt;have b43 := b42.below hb3 b42.lt;clear hb3 hB2 b52 b42 x0 x1;have x0 := b53.cell 0 rfl;have x1 := b53.cell 1 rfl;have y0 := b43.cell 0 rfl;have y1 := b43.cell 1 rfl;go_wp2_with fail;go_ret2;exact ⟨_, rfl, rfl, hB3⟩
def iTT (P : List PtQ) (T : List Tri) (p : PtQ) (i : Nat) : Bool :=
 match T[i]? with
 | some tr => iBB (ptI P tr.1) (ptI P tr.2.1) (ptI P tr.2.2) p
 | none => false
def locN (P : List PtQ) (T : List Tri) (p : PtQ) (n : Nat) : List Int := ((List.range n).filter (iTT P T p)).map fun i : Nat => (i : Int)
theorem locN_step (P : List PtQ) (T : List Tri) (p : PtQ) (n : Nat) : locN P T p (n + 1) = locN P T p n ++ (if iTT P T p n then [(n : Int)] else []) := by
 unfold locN;rw [List.range_succ, List.filter_append, List.map_append];congr 1;cases h : iTT P T p n <;> simp [h]
theorem locate_ok (w : World) (vp vt : Value) (P : List PtQ) (T : List Tri) (k : Nat) (hp : RdP w vp (strP P)) (ht : RdT w vt T) (hm : MeshOK P T k) (p : PtQ) (hpz : SzP 200 p) (hg : Good w) :
 Calls Tryz.prog 66 #[.agg #[vp, vt], .agg #[.string (RS p.1), .string (RS p.2)]] w (Ret (fun r w' => ∃ v, r = .tuple #[v, .int .i64 0] /\ RdI .i64 w' v (locN P T p T.length)) w) := by
 have HER := hid (hpz.right (Nat.le_refl _));have hz1 := hpz.1.size (by omega);have hz2 := hpz.2.size (by omega);have HCK : Hid (∀ w', Below w.heap.size w w' -> Good w' -> Calls Tryz.prog 40 #[.agg #[vp, vt]] w' (Ret (fun r _ => r = .int .i64 0) w')) := fun w' hb hg' => check_any w' vp vt P T k (RdC.below hp hb) (RdC.below ht hb) hm hg';have HCO : Hid (∀ (i : Nat) (h : i < T.length) (w' : World), Below w.heap.size w w' -> Calls Tryz.prog 43 #[.agg #[vp, vt], .int .i64 (i : Int)] w' (Ret (fun r _ => r = .agg #[.string (RS (ptI P T[i].1).1), .string (RS (ptI P T[i].1).2), .string (RS (ptI P T[i].2.1).1), .string (RS (ptI P T[i].2.1).2), .string (RS (ptI P T[i].2.2).1), .string (RS (ptI P T[i].2.2).2)]) w')) :=
  fun i h w' hb => mcorners_any w' vp vt P T k (RdC.below hp hb) (RdC.below ht hb) hm.toMeshIn i i rfl h T[i] rfl
 have HSZ : Hid (∀ (i : Nat) (h : i < T.length), SzP 200 (ptI P T[i].1) /\ SzP 200 (ptI P T[i].2.1) /\ SzP 200 (ptI P T[i].2.2)) := fun i h => by
  have hidx := hm.idx T[i] (List.getElem_mem h);have key : ∀ z ∈ idxOf T[i], SzP 200 (ptI P z) := fun z hz => by
   obtain ⟨h0, h1⟩ := hidx z hz;obtain ⟨q, rfl⟩ : ∃ q : Nat, z = (q : Int) := ⟨z.toNat, by omega⟩;rw [pIn P q (by omega)];have := hm.sz _ (List.getElem_mem (show q < P.length by omega));exact ⟨this.1.mono hm.klim2, this.2.mono hm.klim2⟩
  exact ⟨key _ (by simp [idxOf]), key _ (by simp [idxOf]), key _ (by simp [idxOf])⟩
 have hpp := hp;have htt := ht;obtain ⟨pp, cp, rfl, -, -, -⟩ := hpp.open;obtain ⟨pt, ct, rfl, -, -, -⟩ := htt.open;have hn8 : T.length <= 800 := hm.tlen;have HPZ := hid hpz;obtain ⟨i0, hi, hzz0, hzz1, hzz2⟩ := info_parts info_i64;generalize hpx : RS p.1 = px at *;generalize hpy : RS p.2 = py at *;have HPX := hid hpx;have HPY := hid hpy;rw [sPl] at *;clear hp ht hm hpp htt hpz hpx hpy;go_enter Tryz.func66, Tryz.ntmps66;go_wp2_with fail;obtain ⟨W, hW⟩ : ∃ W, W = (w.alloc (.cells #[.slice pp P.length cp, .slice pt T.length ct] 38)).alloc (.cells #[.string px, .string py] 33) := ⟨_, rfl⟩;have hB : Below w.heap.size w W := by rw [hW]; exact zal2 _ _ _
 have e3 : BoxN W (w.heap.size + 1) 33 [.string px, .string py] := by rw [hW]; exact BoxN.new _ _ _ _ (by simp)
 have e2 : BoxN W w.heap.size 38 [.slice pp P.length cp, .slice pt T.length ct] := by
  rw [hW];have h1 := (BoxN.new w #[.slice pp P.length cp, .slice pt T.length ct] 38 _ rfl);exact h1.below (zal _ _) h1.lt
 rw [<- hW];clear hW;refine (HCK.out W hB (hg.below hB)).mono ?_;rintro e w1 ⟨_, rfl, rfl, hb1⟩;have hB1 := hB.trans (hb1.mono hB.size);have e21 := e2.below hb1 e2.lt;have e31 := e3.below hb1 e3.lt;have y0 := e31.cell 0 rfl;have y1 := e31.cell 1 rfl;clear hb1 hB e2 e3;go_wp2_with fail;refine (cPa px py (by omega) (by omega) w1 (hg.below hB1)).mono ?_;rw [HER.out];rintro e w2 ⟨_, rfl, rfl, hb2⟩;have hB2 := hB1.trans (hb2.mono hB1.size);have e22 := e21.below hb2 e21.lt;have e32 := e31.below hb2 e31.lt;have hz3 := e32.lt;have x1 := e22.cell 1 rfl;clear hb2 hB1 e21 e31 y0 y1;go_wp2_with fail;go_loopw [7, 20] (fun t7 t20 wr => ∃ (i m : Nat), t20 = .int .i64 i /\ i <= T.length /\ m <= i /\ Hid ((locN P T p i).length = m) /\ wr.ownsRow w2.heap.size 3 1 t7 m ((locN P T p i).map fun x => Value.int .i64 x) /\ Below w2.heap.size w2 wr) (fun _ t20 _ => T.length - (RowKit.intOf t20).toNat)
 case atStart => exact ⟨0, 0, rfl, Nat.zero_le _, Nat.le_refl _, rfl, World.ownsRow_nil _ _ _ _, Below.refl _ _⟩
 case round =>
  obtain ⟨i, m, rfl, hin, hmi, HL, hown, hbr⟩ := hrel;obtain ⟨p7, c7, rfl⟩ := oRs hown;have hzr := hbr.size;rcases Nat.lt_or_ge i T.length with h | h
  ·have HST := hid (locN_step P T p i)
   have HIT : Hid (iTT P T p i = iBB (ptI P T[i].1) (ptI P T[i].2.1) (ptI P T[i].2.2) p) := by unfold Hid iTT; rw [List.getElem?_eq_getElem h]
   obtain ⟨s1, s2, s3⟩ := HSZ.out i h;have hbW : Below w.heap.size w wr := hB2.trans (hbr.mono hB2.size);have hbd : Below w.heap.size w wr.drew := hbW.trans ((bdN wr 1).mono hbW.size);have HC : Hid (∀ w', Below w.heap.size w w' -> _) := fun w' hb => HCO.out i h w' hb;have HI : Hid (∀ w', Good w' -> _) := fun w' hg' => inside_any (ptI P T[i].1) (ptI P T[i].2.1) (ptI P T[i].2.2) p 200 (by omega) (by omega) s1 s2 s3 HPZ.out w' hg'
   rw [HPX.out, HPY.out] at HI;generalize iBB (ptI P T[i].1) (ptI P T[i].2.1) (ptI P T[i].2.2) p = bi at *;generalize RS (ptI P T[i].1).1 = q1 at *;generalize RS (ptI P T[i].1).2 = q2 at *;generalize RS (ptI P T[i].2.1).1 = q3 at *;generalize RS (ptI P T[i].2.1).2 = q4 at *;generalize RS (ptI P T[i].2.2).1 = q5 at *;generalize RS (ptI P T[i].2.2).2 = q6 at *;have a0 := (hbr.cell (p := ⟨w.heap.size, 0, none⟩) e22.lt).trans (e22.cell 0 rfl);have a1 := (hbr.cell (p := ⟨w.heap.size, 1, none⟩) e22.lt).trans (e22.cell 1 rfl);have b0 := (hbr.cell (p := ⟨w.heap.size + 1, 0, none⟩) e32.lt).trans (e32.cell 0 rfl);have b1 := (hbr.cell (p := ⟨w.heap.size + 1, 1, none⟩) e32.lt).trans (e32.cell 1 rfl);have hz2' := e22.lt;have hiT : (i : Int) < (T.length : Int) := by omega
   have hgd : Good wr.drew := (hg.below hbW).drewN 1;clear s1 s2 s3 x1;go_upto_region 10 with fail;go_region_held3 (fun w' => w'.cell? ⟨w.heap.size, 0, none⟩ = some (.slice pp P.length cp) /\ w'.cell? ⟨w.heap.size, 1, none⟩ = some (.slice pt T.length ct) /\ w'.cell? ⟨w.heap.size + 1, 0, none⟩ = some (.string px) /\ w'.cell? ⟨w.heap.size + 1, 1, none⟩ = some (.string py))
    (first | exact ⟨a0, a1, b0, b1⟩ | exact ⟨p_1_0, p_1_1, p_1_2, p_1_3⟩ | exact ⟨p_2_0, p_2_1, p_2_2, p_2_3⟩)
    (first
    | (go_at_call 119; refine (HI.out _ pg1).mono ?_; rintro e pw2 ⟨_, rfl, rfl, pb2⟩
       have p_2_0 := zct pb2 p_1_0;have p_2_1 := zct pb2 p_1_1;have p_2_2 := zct pb2 p_1_2;have p_2_3 := zct pb2 p_1_3;have ps2 := pb2.size;have pg2 := pg1.below pb2)
    | (go_at_call 43; refine (HC.out _ hbd).mono ?_; rintro e pw1 ⟨_, rfl, rfl, pb1⟩
       have p_1_0 := zct pb1 a0;have p_1_1 := zct pb1 a1;have p_1_2 := zct pb1 b0;have p_1_3 := zct pb1 b1;have ps1 : wr.heap.size <= pw1.heap.size := pb1.size;have pg1 := hgd.below pb1))
   have pB : Below wr.heap.size wr pw2 := zbt (zbt (bdN wr 1) pb1) pb2;have hown2 := WRA hown pB;have hbr2 : Below w2.heap.size w2 pw2 := hbr.trans (pB.mono hzr);have hz4 := hbr2.size;have hwo := pB.size;clear pB pb1 pb2 ps1 ps2 pg1 pg2 p_1_0 p_1_1 p_1_2 p_1_3 p_2_0 p_2_1 p_2_2 p_2_3 a0 a1 b0 b1 hown hbr hgd hbd hbW;cases bi
   ·have HLN : Hid ((locN P T p (i + 1)).length = m) := by unfold Hid; rw [HST.out, HIT.out]; simpa using HL.out
    have HLE : Hid (locN P T p (i + 1) = locN P T p i) := by unfold Hid; rw [HST.out, HIT.out]; simp
    go_wp2_with fail;go_roundw
    case rel => exact ⟨i + 1, m, by go_num, h, by omega, HLN, by rw [HLE.out]; exact hown2, hbr2⟩
    case measure => simp [RowKit.intOf]; omega
   ·have HLN : Hid ((locN P T p (i + 1)).length = m + 1) := by unfold Hid; rw [HST.out, HIT.out]; simpa using HL.out
    have HLE : Hid (locN P T p (i + 1) = locN P T p i ++ [(i : Int)]) := by unfold Hid; rw [HST.out, HIT.out]; simp
    go_wp2_with (at_builtin; refine wpList_append_own _ rfl _ _ 126 rfl w2.heap.size 3 i0 (.int .i64 0) 1 8 Tryz.underlying126 hi hzz0 hzz1 hzz2 rfl (by decide) _ _ _ rfl (hown2.alloc _) ⟨pw2.heap.size, 0, none⟩ 1 1 [.int .i64 i] rfl rfl (coi _ _ _) (oci _) (by unfold maxLen; omega) (by omega) (by simp; omega) ?_
                 intro v3 w3 hown3 hgrow3 _;have hzw3 := hgrow3.size;have hbr3 : Below w2.heap.size w2 w3 := (hbr2.alloc hz4 _).grown hgrow3 (by simp; omega) (fun j hj => by have := (hown2.lt j hj).1; omega);clear hgrow3)
    go_roundw
    case rel => exact ⟨i + 1, m + 1, by go_num, h, by omega, HLN, by rw [HLE.out, List.map_append]; exact hown3, hbr3⟩
    case measure => simp [RowKit.intOf]; omega
  ·obtain rfl : i = T.length := by omega
   have hbW : Below w.heap.size w wr := hB2.trans (hbr.mono hB2.size);have hrd : RdI .i64 wr (.slice p7 m c7) (locN P T p T.length) := by
    have h1 : RdC 1 wr (.slice p7 m c7) m ((locN P T p T.length).map fun x => Value.int .i64 x) := RdC.of_owns hown;unfold RdI;rw [HL.out];exact h1
   go_wp2_with fail;go_ret2;exact ⟨_, rfl, ⟨_, rfl, hrd⟩, hbW⟩
end Go.Proofs.YtegiemcnfbchoaaGreatDoor
