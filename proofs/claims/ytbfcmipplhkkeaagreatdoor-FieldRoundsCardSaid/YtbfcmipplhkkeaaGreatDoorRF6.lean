import Derived.Test.YtbfcmipplhkkeaaGreatDoorRM8b
/- The walk over mesh.Along. mesh.Contains The walks over field.Profile$1, field.Profile. -/
set_option maxHeartbeats 8000000
set_option maxRecDepth 100000
namespace Go.Proofs.YtbfcmipplhkkeaaGreatDoor
open Go.RowKit Go.Lib
theorem along_gen (w : World) (vp vt : Value) (P : List PtQ) (T : List Tri) (k m : Nat) (hp : RdP w vp (strP P)) (ht : RdT w vt T) (hm : MeshOK P T k) (hkm : k <= m) (hm7 : m <= 100) (ht6 : T.length <= 6) (a b : PtQ) (za : SzP m a) (zb : SzP m b) (hab : a ≠ b) (hW : ∀ tr ∈ T, ∀ r, withinF (ptI P tr.1) (ptI P tr.2.1) (ptI P tr.2.2) a b = some r -> Sz 200 r.1 /\ Sz 200 r.2) (hSP : ∀ i, ∀ s ∈ spansN P T a b i, Sz 200 s.2.1 /\ Sz 200 s.2.2) (hg : Good w) :
 Calls Tryz.prog 57 #[.agg #[vp, vt], .agg #[.string (RS a.1), .string (RS a.2)], .agg #[.string (RS b.1), .string (RS b.2)]] w (Ret (fun r w' => ∃ v, r = .tuple #[v, .int .i64 0] /\ RdSp w' v (alongL P T a b)) w) := by
 obtain ⟨i0, hi, hz0, hz1, hz2⟩ := info_parts info_Span;obtain ⟨i1, hj, hy0, hy1, hy2⟩ := info_parts info_str;have hk0 : 0 < m := by have := hm.kpos; omega
 have HCK : Hid (∀ w', Below w.heap.size w w' -> Good w' -> Calls Tryz.prog 33 #[.agg #[vp, vt]] w' (Ret (fun r _ => r = .int .i64 0) w')) := fun w' hb hg' => check_any w' vp vt P T k (RdC.below hp hb) (RdC.below ht hb) hm hg';have HCA := hid fun w hg => cpt_ok a m za hk0 (by omega) w hg
 have HCB := hid fun w hg => cpt_ok b m zb hk0 (by omega) w hg
 have HMC : Hid (∀ (i : Nat) (tr : Tri), T[i]? = some tr -> ∀ w', Below w.heap.size w w' -> Calls Tryz.prog 78 #[.agg #[vp, vt], .int .i64 (i : Int)] w' (Ret (fun r _ => r = .agg #[.string (RS (ptI P tr.1).1), .string (RS (ptI P tr.1).2), .string (RS (ptI P tr.2.1).1), .string (RS (ptI P tr.2.1).2), .string (RS (ptI P tr.2.2).1), .string (RS (ptI P tr.2.2).2)]) w')) := fun i tr hti w' hb => by
  obtain ⟨h1, h2⟩ := List.getElem?_eq_some_iff.1 hti;exact mcorners_any w' vp vt P T k (RdC.below hp hb) (RdC.below ht hb) hm.toMeshIn i (i : Int) rfl h1 tr h2.symm
 have HWI : Hid (∀ (i : Nat) (tr : Tri), T[i]? = some tr -> ∀ w, Good w -> Calls Tryz.prog 102 #[.agg #[.string (RS (ptI P tr.1).1), .string (RS (ptI P tr.1).2), .string (RS (ptI P tr.2.1).1), .string (RS (ptI P tr.2.1).2), .string (RS (ptI P tr.2.2).1), .string (RS (ptI P tr.2.2).2)], .agg #[.string (RS a.1), .string (RS a.2)], .agg #[.string (RS b.1), .string (RS b.2)]] w (Ret (fun r _ => WithinP (withinF (ptI P tr.1) (ptI P tr.2.1) (ptI P tr.2.2) a b) r) w)) := fun i tr hti w hg => by
  obtain ⟨z0, z1, z2⟩ := ptI_SzP hm (List.mem_of_getElem? hti);exact within_gen _ _ _ a b m hk0 hm7 (hW tr (List.mem_of_getElem? hti)) ⟨z0.1.mono hkm, z0.2.mono hkm⟩ ⟨z1.1.mono hkm, z1.2.mono hkm⟩ ⟨z2.1.mono hkm, z2.2.mono hkm⟩ za zb w hg
 have HSP : Hid (∀ i, ∀ s ∈ spansN P T a b i, Sz 200 s.2.1 /\ Sz 200 s.2.2) := hSP;clear hSP;have htp := (two_pts a b).resolve_left (fun e => hab e.1);have HTP := hid htp.2;obtain ⟨AN, hAN⟩ : ∃ AN : Nat -> List SpanQ, AN = spansN P T a b := ⟨_, rfl⟩;rw [<- hAN] at HSP;have HAS : Hid (∀ (i : Nat) (tr : Tri), T[i]? = some tr -> ∀ l, withinF (ptI P tr.1) (ptI P tr.2.1) (ptI P tr.2.2) a b = some l -> AN (i + 1) = AN i ++ [(i, l.1, l.2)]) := fun i tr hti l hl => by rw [hAN, spansN_succ, spanAt_some hti hl]
 have HAE : Hid (∀ (i : Nat) (tr : Tri), T[i]? = some tr -> withinF (ptI P tr.1) (ptI P tr.2.1) (ptI P tr.2.2) a b = none -> AN (i + 1) = AN i) := fun i tr hti hl => by rw [hAN, spansN_succ, spanAt_none hti hl, List.append_nil]
 have HA0 : Hid (AN 0 = []) := by unfold Hid; rw [hAN]; rfl
 have HAL : Hid (∀ i, (AN i).length <= i) := fun i => by rw [hAN]; exact spansN_le P T a b i
 have HAF : Hid (alongL P T a b = alongS (AN T.length)) := by unfold Hid; rw [hAN]; rfl
 obtain ⟨pp, cp, rfl, -, -, -⟩ := hp.open;obtain ⟨pt, ct, rfl, -, -, -⟩ := ht.open;rw [strP_length] at *;rw [HAF.out];have htz : (T.length : Int) <= 6 := by omega
 clear hp ht hm hkm hm7 za zb hab htp hAN hW;go_enter Tryz.func57, Tryz.ntmps57;go_wp2_with fail;obtain ⟨W0, hW0⟩ : ∃ W, W = ((w.alloc (.cells #[.slice pp P.length cp, .slice pt T.length ct] 35)).alloc (.cells #[.string (RS a.1), .string (RS a.2)] 50)).alloc (.cells #[.string (RS b.1), .string (RS b.2)] 50) := ⟨_, rfl⟩;have hB0 : Below w.heap.size w W0 := by rw [hW0]; exact (((Below.refl _ _).alloc (Nat.le_refl _) _).alloc (by simp) _).alloc (by simp; omega) _
 have b5 : BoxN W0 (w.heap.size + 1 + 1) 50 [.string (RS b.1), .string (RS b.2)] := by rw [hW0]; exact BoxN.new _ _ _ _ (by simp)
 have b4 : BoxN W0 (w.heap.size + 1) 50 [.string (RS a.1), .string (RS a.2)] := by
  rw [hW0];have h1 := (BoxN.new (w.alloc (.cells #[.slice pp P.length cp, .slice pt T.length ct] 35)) #[.string (RS a.1), .string (RS a.2)] 50 (w.heap.size + 1) (by simp));exact h1.below (zal _ _) h1.lt
 have b3 : BoxN W0 w.heap.size 35 [.slice pp P.length cp, .slice pt T.length ct] := by
  rw [hW0];have h1 := (BoxN.new w #[.slice pp P.length cp, .slice pt T.length ct] 35 _ rfl);exact (h1.below ((Below.refl _ _).alloc (Nat.le_refl _) _) h1.lt).below ((Below.refl _ _).alloc (Nat.le_refl _) _) (by simp; omega)
 rw [<- hW0];clear hW0;refine (HCK.out W0 hB0 (hg.below hB0)).mono ?_;rintro e w1 ⟨_, rfl, rfl, hb1⟩;have hB1 := hB0.trans (hb1.mono hB0.size);have b51 := b5.below hb1 b5.lt;have b41 := b4.below hb1 b4.lt;have b31 := b3.below hb1 b3.lt;clear hb1 hB0 b5 b4 b3;have x0 := b41.cell 0 rfl;have x1 := b41.cell 1 rfl;go_wp2_with fail;refine (HCA.out w1 (hg.below hB1)).mono ?_;rintro e w2 ⟨_, rfl, rfl, hb2⟩;have hB2 := hB1.trans (hb2.mono hB1.size);have b52 := b51.below hb2 b51.lt;have b42 := b41.below hb2 b41.lt;have b32 := b31.below hb2 b31.lt;clear hb2 hB1 b51 b41 b31 x0 x1;have x0 := b52.cell 0 rfl;have x1 := b52.cell 1 rfl;go_wp2_with fail;refine (HCB.out w2 (hg.below hB2)).mono ?_;rintro e w3 ⟨_, rfl, rfl, hb3⟩;have hB3 := hB2.trans (hb3.mono hB2.size);have b53 := b52.below hb3 b52.lt;have b43 := b42.below hb3 b42.lt;have b33 := b32.below hb3 b32.lt;clear hb3 hB2 b52 b42 b32 x0 x1;have x0 := b53.cell 0 rfl;have x1 := b53.cell 1 rfl;have y0 := b43.cell 0 rfl;have y1 := b43.cell 1 rfl;go_upto_region 6 with fail;go_cut [36] (fun s36 wx => s36 = .bool false /\ wx = w3)
 case first =>
  rcases HTP.out with h1 | ⟨h1, h2⟩
  all_goals
   go_wp2_with fail;go_meet;exact ⟨rfl, rfl⟩
 case rest =>
  obtain ⟨rfl, hwc⟩ := hcut;rw [hwc];clear hwc;clear x0 x1 y0 y1;have x1 := b33.cell 1 rfl;have hl33 := b33.lt;have x1a : (w3.alloc (.cells #[.slice none 0 0] 37)).cell? ⟨w.heap.size, 1, none⟩ = some (.slice pt T.length ct) := cell_alloc_l _ x1;go_wp2_with fail;clear x1a hl33;obtain ⟨W, hW⟩ : ∃ W, W = w3.alloc (.cells #[.slice none 0 0] 37) := ⟨_, rfl⟩;have hbW : Below w3.heap.size w3 W := by rw [hW]; exact zal _ _
  have be : BoxN W w3.heap.size 37 [.slice none 0 0] := by rw [hW]; exact BoxN.new _ _ _ _ rfl
  have HWZ : Hid (W.heap.size = w3.heap.size + 1) := by unfold Hid; rw [hW]; simp
  have hBW := hB3.trans (hbW.mono hB3.size);have B5 := hid (b53.below hbW b53.lt);have B4 := hid (b43.below hbW b43.lt);have B3 := hid (b33.below hbW b33.lt);have hM3 : w.heap.size + 1 + 1 < w3.heap.size := b53.lt;have hWz1 : w3.heap.size < W.heap.size := by rw [HWZ.out]; omega
  rw [<- hW];clear hW hbW hB3 b53 b43 b33 x1 HCK HCA HCB HTP;go_loopw [9, 40] (fun t9 t40 wr => ∃ (i nA : Nat) (vB : Value), t40 = .int .i64 i /\ i <= T.length /\ Hid (nA = (AN i).length) /\ nA <= i /\ BoxN wr w3.heap.size 37 [vB] /\ wr.ownsRow W.heap.size 136 3 t9 nA (cellsS (AN i)) /\ wr.ownsRow W.heap.size 40 1 vB (2 * nA) (cellsQ (endsS (AN i))) /\ W.grownBy wr (some w3.heap.size)) (fun _ t40 _ => T.length - (RowKit.intOf t40).toNat)
  case atStart => exact ⟨0, 0, _, rfl, Nat.zero_le _, (by unfold Hid; rw [HA0.out]; rfl), Nat.le_refl _, be, by rw [HA0.out]; exact World.ownsRow_nil _ _ _ _, by rw [HA0.out]; exact World.ownsRow_nil _ _ _ _, gb_refl _ _⟩
  case round =>
   clear be;obtain ⟨i, nA, vB, rfl, hiT, HN, hni, bmr, ownA, ownB, hgb⟩ := hrel;obtain ⟨pA, cA, rfl⟩ := ownsRow_shape ownA;obtain ⟨pB, cB, rfl⟩ := ownsRow_shape ownB;have hbr : Below w.heap.size w wr := below_gb hBW hgb (by omega);have b3r := B3.out.gb hgb (by intro e; injection e with e; omega);have b4r := B4.out.gb hgb (by intro e; injection e with e; omega);have b5r := B5.out.gb hgb (by intro e; injection e with e; omega);rcases Nat.lt_or_ge i T.length with h | h
   ·obtain ⟨tr, htr⟩ : ∃ tr, T[i]? = some tr := ⟨_, List.getElem?_eq_getElem h⟩
    have HM := hid (HMC.out i tr htr);have HW := hid (HWI.out i tr htr);have HS := hid (HAS.out i tr htr);have HE := hid (HAE.out i tr htr);generalize ptI P tr.1 = c0 at *;generalize ptI P tr.2.1 = c1 at *;generalize ptI P tr.2.2 = c2 at *;generalize withinF c0 c1 c2 a b = l at *;have hiz : (i : Int) < (T.length : Int) := by omega
    have m0 := b3r.cell 0 rfl;have m1 := b3r.cell 1 rfl;have a0 := b4r.cell 0 rfl;have a1 := b4r.cell 1 rfl;have q0 := b5r.cell 0 rfl;have q1 := b5r.cell 1 rfl;have hl3 := b3r.lt;have hl4 := b4r.lt;have hl5 := b5r.lt;have hgd : Good wr.drew := (hg.below hbr).drewN 1;have hbd : Below w.heap.size w wr.drew := hbr.trans ((below_drewN wr 1).mono hbr.size);clear htr;go_upto_region 13 with fail;go_region_held3 (fun w' => w'.cell? ⟨w.heap.size, 0, none⟩ = some (.slice pp P.length cp) /\ w'.cell? ⟨w.heap.size, 1, none⟩ = some (.slice pt T.length ct) /\ w'.cell? ⟨w.heap.size + 1, 0, none⟩ = some (.string (RS a.1)) /\ w'.cell? ⟨w.heap.size + 1, 1, none⟩ = some (.string (RS a.2)) /\ w'.cell? ⟨w.heap.size + 1 + 1, 0, none⟩ = some (.string (RS b.1)) /\ w'.cell? ⟨w.heap.size + 1 + 1, 1, none⟩ = some (.string (RS b.2)))
     (first | exact ⟨m0, m1, a0, a1, q0, q1⟩ | exact ⟨p_1_0, p_1_1, p_1_2, p_1_3, p_1_4, p_1_5⟩ | exact ⟨p_2_0, p_2_1, p_2_2, p_2_3, p_2_4, p_2_5⟩)
     (first
     | (go_at_call 102; refine (HW.out _ pg1).mono ?_; rintro e pw2 ⟨_, rfl, ⟨xs, ys, rfl, hwf⟩, pb2⟩
        have p_2_0 := zct pb2 p_1_0;have p_2_1 := zct pb2 p_1_1;have p_2_2 := zct pb2 p_1_2;have p_2_3 := zct pb2 p_1_3;have p_2_4 := zct pb2 p_1_4;have p_2_5 := zct pb2 p_1_5;have ps2 := pb2.size;have pg2 := pg1.below pb2)
     | (go_at_call 78; refine (HM.out wr.drew hbd).mono ?_; rintro e pw1 ⟨_, rfl, rfl, pb1⟩
        have p_1_0 := zct pb1 m0;have p_1_1 := zct pb1 m1;have p_1_2 := zct pb1 a0;have p_1_3 := zct pb1 a1;have p_1_4 := zct pb1 q0;have p_1_5 := zct pb1 q1;have ps1 : wr.heap.size <= pw1.heap.size := pb1.size;have pg1 := hgd.below pb1))
    have pB : Below wr.heap.size wr pw2 := zbt (zbt (below_drewN wr 1) pb1) pb2;have bm2 := bmr.below pB bmr.lt;have ownA2 := World.ownsRow.belowAll ownA pB;have ownB2 := World.ownsRow.belowAll ownB pB;have hgb2 := gb_below hgb pB;have HWF := hid hwf;clear hwf bmr ownA ownB hgb pB b3r b4r b5r m0 m1 a0 a1 q0 q1 hgd hbd hbr HM HW;rcases l with _ | ⟨lo, hi'⟩
    ·have HAE1 := hid (HE.out rfl)
     clear HWF HS HE;go_wp2_with fail;go_roundw
     case rel => exact ⟨i + 1, nA, _, by go_num, by omega, (by unfold Hid; rw [HAE1.out]; exact HN.out), by omega, bm2, by rw [HAE1.out]; exact ownA2, by rw [HAE1.out]; exact ownB2, hgb2⟩
     case measure =>
      show T.length - ((i : Int) + 1).toNat < T.length - (i : Int).toNat;omega
    ·obtain ⟨ex, ey, _, _, _⟩ := HWF.out _ rfl
     dsimp only at ex ey;subst ex ey;have HAS1 := hid (HS.out _ rfl);have F : ApW W w3.heap.size (.slice pB (2 * nA) cB) (.slice pA nA cA) nA (cellsS (AN i)) (.slice pB (2 * nA) cB) (2 * nA) (cellsQ (endsS (AN i))) none none [.int .i64 (i : Int), .string (RS lo), .string (RS hi')] [.string (RS lo), .string (RS hi')] pw2 :=
      ⟨ownA2, ownB2, bm2, hgb2, fun b e => by (cases e), fun b e => by (cases e)⟩
     have FA := F.alloc_a.drew;have FAB := F.alloc_a.alloc_b.drew;rw [show (pw2.alloc (.cells [Value.int .i64 (i : Int), .string (RS lo), .string (RS hi')].toArray 136)).heap.size = pw2.heap.size + 1 by simp] at FAB;have FBA := F.alloc_b.alloc_a.drew;rw [show (pw2.alloc (.cells [Value.string (RS lo), .string (RS hi')].toArray 40)).heap.size = pw2.heap.size + 1 by simp] at FBA;have kc0 := bm2.cell 0 rfl;have kcA := cell_alloc_l (.cells #[.int .i64 (i : Int), .string (RS lo), .string (RS hi')] 136) kc0;have kcB := cell_alloc_l (.cells #[.string (RS lo), .string (RS hi')] 40) kc0;have kcAB := cell_alloc_l (.cells #[.string (RS lo), .string (RS hi')] 40) kcA;have kcBA := cell_alloc_l (.cells #[.int .i64 (i : Int), .string (RS lo), .string (RS hi')] 136) kcB;have hnT : nA <= 6 := by omega
     clear HWF HS HE F bm2 ownA2 ownB2 hgb2;go_upto_region 15 with fail;rw [show Op.load 37 (.tmp 10) = id (Op.load 37 (.tmp 10)) from rfl];go_region_held3 (fun _ => True)
      (trivial)
      (first
        | (refine step_append_lies _ (by rfl) (.tmp 61) (.tmp 64) 37 (by rfl) W.heap.size 40 i1 (.string ⟨#[]⟩) 1 16 Tryz.underlying37 hj hy0 hy1 hy2 rfl (by decide) _ (2 * nA) _ (by simp [Act.eval]) G5.ob ⟨pw2.heap.size + 1, 0, none⟩ 2 2 [.string (RS lo), .string (RS hi')] (by simp [Act.eval]) rfl G5.news_b (two_one _ _) (by omega) (by unfold maxLen; omega) (by omega) G5.gb.size _ rfl ?_; intro g6 cap6 w6 hown6 hgr6 hat6 hlt6; have G6 := G5.app_b hown6 hgr6; have kc6 := G6.box.cell 0 rfl; have kf6 := G6.box.frozen 0)
        | (refine step_append_lies _ (by rfl) (.tmp 61) (.tmp 64) 37 (by rfl) W.heap.size 40 i1 (.string ⟨#[]⟩) 1 16 Tryz.underlying37 hj hy0 hy1 hy2 rfl (by decide) _ (2 * nA) _ (by simp [Act.eval]) G5.ob ⟨pw2.heap.size, 0, none⟩ 2 2 [.string (RS lo), .string (RS hi')] (by simp [Act.eval]) rfl G5.news_b (two_one _ _) (by omega) (by unfold maxLen; omega) (by omega) G5.gb.size _ rfl ?_; intro g6 cap6 w6 hown6 hgr6 hat6 hlt6; have G6 := G5.app_b hown6 hgr6; have kc6 := G6.box.cell 0 rfl; have kf6 := G6.box.frozen 0)
        | (refine step_append_lies _ (by rfl) (.tmp 61) (.tmp 64) 37 (by rfl) W.heap.size 40 i1 (.string ⟨#[]⟩) 1 16 Tryz.underlying37 hj hy0 hy1 hy2 rfl (by decide) _ (2 * nA) _ (by simp [Act.eval]) (G5.alloc_b).ob ⟨w5.heap.size, 0, none⟩ 2 2 [.string (RS lo), .string (RS hi')] (by simp [Act.eval]) rfl (G5.alloc_b).news_b (two_one _ _) (by omega) (by unfold maxLen; omega) (by omega) (G5.alloc_b).gb.size _ rfl ?_; intro g6 cap6 w6 hown6 hgr6 hat6 hlt6; have G6 := (G5.alloc_b).app_b hown6 hgr6; have kc6 := G6.box.cell 0 rfl; have kf6 := G6.box.frozen 0)
        | (refine step_append_lies _ (by rfl) (.tmp 54) (.tmp 59) 127 (by rfl) W.heap.size 136 i0 (.agg #[.int .i64 0, .string ⟨#[]⟩, .string ⟨#[]⟩]) 3 40 Tryz.underlying127 hi hz0 hz1 hz2 rfl (by decide) _ nA _ (by simp [Act.eval]) FA.oa ⟨pw2.heap.size, 0, none⟩ 1 1 [.int .i64 (i : Int), .string (RS lo), .string (RS hi')] (by simp [Act.eval]) rfl FA.news_a (span_one _ _ _) (by omega) (by unfold maxLen; omega) (by omega) FA.gb.size _ rfl ?_; intro g5 cap5 w5 hown5 hgr5 hat5 hlt5; have G5 := FA.app_a hown5 hgr5; have kc5 := G5.box.cell 0 rfl; have kc5B := cell_alloc_l (.cells #[.string (RS lo), .string (RS hi')] 40) kc5)
        | (refine step_append_lies _ (by rfl) (.tmp 54) (.tmp 59) 127 (by rfl) W.heap.size 136 i0 (.agg #[.int .i64 0, .string ⟨#[]⟩, .string ⟨#[]⟩]) 3 40 Tryz.underlying127 hi hz0 hz1 hz2 rfl (by decide) _ nA _ (by simp [Act.eval]) FAB.oa ⟨pw2.heap.size, 0, none⟩ 1 1 [.int .i64 (i : Int), .string (RS lo), .string (RS hi')] (by simp [Act.eval]) rfl FAB.news_a (span_one _ _ _) (by omega) (by unfold maxLen; omega) (by omega) FAB.gb.size _ rfl ?_; intro g5 cap5 w5 hown5 hgr5 hat5 hlt5; have G5 := FAB.app_a hown5 hgr5; have kc5 := G5.box.cell 0 rfl; have kc5B := cell_alloc_l (.cells #[.string (RS lo), .string (RS hi')] 40) kc5)
        | (refine step_append_lies _ (by rfl) (.tmp 54) (.tmp 59) 127 (by rfl) W.heap.size 136 i0 (.agg #[.int .i64 0, .string ⟨#[]⟩, .string ⟨#[]⟩]) 3 40 Tryz.underlying127 hi hz0 hz1 hz2 rfl (by decide) _ nA _ (by simp [Act.eval]) FBA.oa ⟨pw2.heap.size + 1, 0, none⟩ 1 1 [.int .i64 (i : Int), .string (RS lo), .string (RS hi')] (by simp [Act.eval]) rfl FBA.news_a (span_one _ _ _) (by omega) (by unfold maxLen; omega) (by omega) FBA.gb.size _ rfl ?_; intro g5 cap5 w5 hown5 hgr5 hat5 hlt5; have G5 := FBA.app_a hown5 hgr5; have kc5 := G5.box.cell 0 rfl; have kc5B := cell_alloc_l (.cells #[.string (RS lo), .string (RS hi')] 40) kc5))
     all_goals
      have HNX : Hid (nA + 1 = (AN (i + 1)).length) := by unfold Hid; rw [HAS1.out, List.length_append, <- HN.out]; rfl
      have HCX : Hid (cellsS (AN i) ++ [.int .i64 (i : Int), .string (RS lo), .string (RS hi')] = cellsS (AN (i + 1)) /\ cellsQ (endsS (AN i)) ++ [.string (RS lo), .string (RS hi')] = cellsQ (endsS (AN (i + 1)))) := by
       unfold Hid; rw [HAS1.out, cellsS_snoc, endsS_append];refine ⟨rfl, ?_⟩;unfold cellsQ; rw [List.map_append]; rfl
      have oA6 := G6.oa;have oB6 := G6.ob;rw [HCX.out.1] at oA6;rw [HCX.out.2] at oB6;have bx6 := G6.box.set 0 (.slice (some ⟨g6, 0, none⟩) (2 * nA + 2) cap6);have gb6 := gb_set G6.gb 0 (.slice (some ⟨g6, 0, none⟩) (2 * nA + 2) cap6);clear G5 G6 FA FAB FBA kc0 kcA kcB kcAB kcBA kc5 kc5B hgr5 hgr6 hown5 hown6;go_wp2_with fail;go_roundw
      case rel => exact ⟨i + 1, nA + 1, _, by go_num, by omega, HNX, by omega, bx6, ownsRow_setCell_below oA6 (by show w3.heap.size < W.heap.size; exact hWz1) _, by rw [show 2 * (nA + 1) = 2 * nA + 2 by omega]; exact ownsRow_setCell_below oB6 (by show w3.heap.size < W.heap.size; exact hWz1) _, gb6⟩
      case measure =>
       show T.length - ((i : Int) + 1).toNat < T.length - (i : Int).toNat;omega
   ·have hige : (T.length : Int) <= (i : Int) := by omega
    have HI : Hid (i = T.length) := by unfold Hid; omega
    obtain ⟨A, hA⟩ : ∃ A, A = AN i := ⟨_, rfl⟩;rw [<- hA] at ownA ownB HN;have HAF2 : Hid (alongS (AN T.length) = joinN A (sortD (endsS A)) ((sortD (endsS A)).length - 1)) := by unfold Hid; rw [hA, HI.out]; rfl
    have HZ : Hid (∀ s ∈ A, Sz 200 s.2.1 /\ Sz 200 s.2.2) := by unfold Hid; rw [hA]; exact HSP.out i
    have hn6 : nA <= 6 := by omega
    have hlB : (endsS A).length = 2 * nA := by rw [endsS_length, <- HN.out]
    have HLB := hid hlB;have HZE : Hid (∀ q ∈ endsS A, Sz 200 q) := endsS_Sz HZ.out;have HRV : Hid (RowV wr (.slice pB (2 * nA) cB) (endsS A)) := RowV.of_own ownB hlB.symm;have HOB : Hid (∀ g, (Value.slice pB (2 * nA) cB).ownBlock = some g -> W.heap.size <= g) := fun g e => (ownB.lt g e).1;have HOE : Hid (some w3.heap.size ≠ (Value.slice pB (2 * nA) cB).ownBlock) := owns_boxN ownB bmr (by decide);have HOA : Hid ((Value.slice pA nA cA).ownBlock = none \/ (Value.slice pA nA cA).ownBlock ≠ (Value.slice pB (2 * nA) cB).ownBlock) := owns_apart ownA ownB (by decide);have hWw : w.heap.size <= W.heap.size := by omega
    have x0 := bmr.cell 0 rfl;clear hA hlB HMC HWI HAS HAE HA0 HAL HSP b3r b4r b5r;go_wp2_with fail;refine (sortV_any w wr _ (endsS A) (by rw [HLB.out]; omega) HZE.out HRV.out hbr (fun g e => Nat.le_trans hWw (HOB.out g e)) hg).mono ?_;rintro e w4 ⟨rfl, l, hl1, hl2, hl3, hl4⟩;have hbm4 : BoxN w4 w3.heap.size 37 [.slice pB (2 * nA) cB] := bmr.gb hl4 (fun e => HOE.out e.symm);have ownA4 := ownA.kept hl4 HOA.out;have hgb4 := gb_grown hgb hl4 (fun j e => HOB.out j e);have HPM := hid hl1;have HST := hid hl2;have HRV4 := hid hl3;clear x0 bmr ownA ownB hgb hl1 hl2 hl3 hl4 HRV;have x0 := hbm4.cell 0 rfl;go_wp2_with fail;refine (compactV_any w4 _ l (by rw [HPM.out.length_eq, HLB.out]; omega) HST.out HRV4.out).mono ?_;rintro e w5 ⟨v5, rfl, hr5, ho5, hl5⟩;obtain ⟨E, hE⟩ : ∃ E, E = sortD (endsS A) := ⟨_, rfl⟩;rw [sortD_perm HPM.out, <- hE] at hr5;rw [<- hE] at HAF2;obtain ⟨p5, c5, rfl⟩ := hr5.shape;have hbm5 : BoxN w5 w3.heap.size 37 [.slice pB (2 * nA) cB] := hbm4.gb hl5 (fun e => HOE.out e.symm);have ownA5 := ownA4.kept hl5 HOA.out;have hgb5 := gb_grown hgb4 hl5 (fun j e => HOB.out j e);have HZ5 : Hid (∀ q ∈ E, Sz 200 q) := fun q hq => HZE.out q ((sortD_mem _ _).1 (by rw [<- hE]; exact hq))
    have hEl : E.length <= 12 := by rw [hE]; exact Nat.le_trans (sortD_le _) (by rw [HLB.out]; omega)
    have HO5 : Hid ((Value.slice p5 E.length c5).ownBlock ≠ some w3.heap.size) := fun e => by rw [ho5] at e; exact HOE.out e.symm
    have HR5 := hid hr5;have x5 := hbm5.cell 0 rfl;have x5f := hbm5.frozen 0;clear x0 hbm4 ownA4 hgb4 HRV4 HST HPM hl5 hr5 ho5 hE;obtain ⟨W2, hW2⟩ : ∃ X, X = w5.setCell ⟨w3.heap.size, 0, none⟩ (.slice p5 E.length c5) := ⟨_, rfl⟩;have be2 : BoxN W2 w3.heap.size 37 [.slice p5 E.length c5] := by rw [hW2]; exact hbm5.set 0 _
    have ownA2 : W2.ownsRow W.heap.size 136 3 (.slice pA nA cA) nA (cellsS A) := by rw [hW2]; exact ownsRow_setCell_below ownA5 hWz1 _
    have HR2 : Hid (RowV W2 (.slice p5 E.length c5) E) := by unfold Hid; rw [hW2]; exact HR5.out.setFar _ _ _ HO5.out
    have hgb2 : W.grownBy W2 (some w3.heap.size) := by rw [hW2]; exact gb_set hgb5 0 _
    have hB2 : Below w.heap.size w W2 := below_gb hBW hgb2 (by omega);have hez := be2.lt;have HZ25 : Hid (W2.heap.size = w5.heap.size) := by unfold Hid; rw [hW2]; simp
    clear HO5 HR5 hbm5 ownA5 hgb5;go_wp2_with fail;rw [<- hW2];clear hW2 x5 x5f;obtain ⟨Jn, hJn⟩ : ∃ J : Nat -> List SpanQ, J = joinN A E := ⟨_, rfl⟩;have HJ0 : Hid (Jn 0 = []) := by unfold Hid; rw [hJn]; rfl
    have HJS : Hid (∀ j x y, E[j]? = some x -> E[j + 1]? = some y -> Jn (j + 1) = stepO A (Jn j) x y) := fun j x y hx hy => by rw [hJn]; show stepO A (joinN A E j) _ _ = _; rw [hx, hy]; rfl
    have HJL : Hid (∀ j, (Jn j).length <= j) := fun j => by rw [hJn]; exact joinN_len A E j
    have HJZ : Hid (∀ j, ∀ s ∈ Jn j, Sz 200 s.2.1 /\ Sz 200 s.2.2) := fun j => by rw [hJn]; exact joinN_Sz HZ5.out j
    have HAF3 : Hid (alongS (AN T.length) = Jn (E.length - 1)) := by unfold Hid; rw [hJn]; exact HAF2.out
    have bi0 : BoxN (W2.alloc (.cells #[.int .i64 1] 3)) W2.heap.size 3 [.int .i64 1] := BoxN.new _ _ _ _ rfl;have hbw0 : Below W2.heap.size W2 (W2.alloc (.cells #[.int .i64 1] 3)) := zal _ _;clear hJn HAF2 HI HOA HOE hgb2 HLB HZE hbr
    go_loopg [15, 16] E.length (fun gm t15 t16 wr => ∃ (j Bi n : Nat), t16 = .pointer (some ⟨Bi, 0, none⟩) /\ (j + 1 <= E.length \/ j = 0) /\ E.length - j <= gm /\ BoxN wr Bi 3 [.int .i64 ((j : Int) + 1)] /\ W2.heap.size <= Bi /\ Hid (n = (Jn j).length) /\ n <= j /\ wr.ownsRow W2.heap.size 136 3 t15 n (cellsS (Jn j)) /\ Below W2.heap.size W2 wr)
    case atStart => exact ⟨0, w5.heap.size, 0, rfl, .inr rfl, by omega, by rw [<- HZ25.out]; exact bi0, by rw [HZ25.out]; exact Nat.le_refl _, (by unfold Hid; rw [HJ0.out]; rfl), Nat.le_refl _, by rw [HJ0.out]; exact World.ownsRow_nil _ _ _ _, hbw0⟩
    case round =>
     clear bi0 hbw0;obtain ⟨j, Bi, n, rfl, hj1, hjg, hbi, hBi, HNJ, hnj, hown, hbr2⟩ := hrel;obtain ⟨po, co, rfl⟩ := ownsRow_shape hown;have hbw2 : Below w.heap.size w wr := hB2.trans (hbr2.mono hB2.size);have ber := be2.below hbr2 hez;have ownAr := World.ownsRow.belowAll ownA2 hbr2;have hRr := HR2.out.below hbr2 HR2.out.lt;have ce := ber.cell 0 rfl;have ci := hbi.cell 0 rfl;rcases Nat.lt_or_ge (j + 1) E.length with h2 | h2
     ·obtain ⟨x, hx⟩ : ∃ x, E[j]? = some x := ⟨_, List.getElem?_eq_getElem (by omega)⟩
      obtain ⟨y, hy⟩ : ∃ y, E[j + 1]? = some y := ⟨_, List.getElem?_eq_getElem h2⟩;have HJ1 := hid (HJS.out j x y hx hy);have zx := HZ5.out x (List.mem_of_getElem? hx);have zy := HZ5.out y (List.mem_of_getElem? hy);obtain ⟨g, cap, hv, hgl, hrow⟩ := hRr.at hx;injection hv with hv1 hv2 hv3
      subst hv1 hv3;clear hv2;have hRA : RdSp wr (.slice pA nA cA) A := by unfold RdSp; rw [<- HN.out]; exact RdC.of_owns ownAr
      have HIF := hid (indexSpan_any wr (.slice pA nA cA) A hRA (by rw [<- HN.out]; omega) HZ.out w3.heap.size Bi g E.length c5 j x y zx zy h2 (by omega) ce ci (hrow j x hx).1 (hrow (j + 1) y hy).1 (hg.below hbw2));have hjz : (j : Int) + 1 < (E.length : Int) := by omega
      have HX := hid hx;have HY := hid hy;clear zx zy hRA hx hy;go_wp2_with fail;refine HIF.out.mono ?_;rintro e w6 ⟨_, rfl, hk, hb6⟩;have hbi6 := hbi.below hb6 hbi.lt;have ber6 := ber.below hb6 ber.lt;have ownA6 := World.ownsRow.belowAll ownAr hb6;have hown6 := World.ownsRow.belowAll hown hb6;have hbr6 : Below W2.heap.size W2 w6 := hbr2.trans (hb6.mono hbr2.size);have hrow6 := hrow.below hb6 hgl;have hli := hbi6.lt;have hzz := hbr6.size;clear hbi ber ownAr hown hbr2 hRr ce ci hrow hb6 HIF hbw2;rcases hk with ⟨kk, hfk, hkl, rfl⟩ | ⟨hfk, rfl⟩
      ·obtain ⟨s, hs⟩ : ∃ s, A[kk]? = some s := ⟨_, List.getElem?_eq_getElem hkl⟩
       have hRA6 : RdSp W2 (.slice pA nA cA) A := by unfold RdSp; rw [<- HN.out]; exact RdC.of_owns ownA2
       obtain ⟨_, _, hvA, hcA⟩ := hRA6.cells;injection hvA with hvA1 hvA2 hvA3
       subst hvA1;clear hvA2 hvA3;obtain ⟨ba, oa, rfl, hbal, hcells⟩ := hcA (List.ne_nil_of_length_pos (by omega));have a0 := zcq hbr6 hbal (hcells kk s hs).1;have hg2 : g < W2.heap.size := HR2.out.lt g rfl;have d0 := hbi6.cell 0 rfl;have d1 := ber6.cell 0 rfl;have d2 := (hrow6 j x HX.out).1;have d3 := (hrow6 (j + 1) y HY.out).1;have hkz : (kk : Int) < (nA : Int) := by rw [HN.out]; omega
       have hjz2 : (j : Int) < (E.length : Int) := by omega
       have hw1 : IntKind.i64.wrap ((j : Int) + 1 - 1) = (j : Int) := by rw [show (j : Int) + 1 - 1 = (j : Int) by omega]; exact IntWalk.i64_in _ (by omega)
       have hw2 : IntKind.i64.wrap (j : Int) = (j : Int) := IntWalk.i64_in _ (by omega);have hw3 : ((j : Int) + 1).toNat = j + 1 := by omega
       have hw4 : (0 : Int) <= (j : Int) + 1 := by omega
       have HS := hid hs;have HFK := hid hfk;clear hcells hcA hRA6 hs hfk;go_upto_region 26 with fail;go_cut [113] (fun s113 wx => ∃ cr : Bool, s113 = .bool cr /\ Hid (cr = true ↔ ∃ L l, Jn j = L ++ [l] /\ l.1 = s.1 /\ l.2.2 = x) /\ ∃ nd, wx = w6.drewN nd)
       case first =>
        rcases Nat.eq_zero_or_pos n with h0 | h0
        ·have HR : Hid (false = true ↔ ∃ L l, Jn j = L ++ [l] /\ l.1 = s.1 /\ l.2.2 = x) := by
              refine ⟨fun h => (by cases h), ?_⟩;rintro ⟨L, l, h1, _⟩;have := HNJ.out;rw [h1, List.length_append] at this;simp at this;omega
         subst h0;rw [show ((0 : Nat) : Int) = 0 from rfl];clear a0 d0 d1 d2 d3;go_region
         all_goals
              go_wp2_with fail;go_meet;exact ⟨_, rfl, HR.out, 1, rfl⟩
        ·obtain ⟨n', rfl⟩ : ∃ n', n = n' + 1 := ⟨n - 1, by omega⟩
         obtain ⟨L, l, hL⟩ : ∃ L l, Jn j = L ++ [l] := by
              rcases List.eq_nil_or_concat (Jn j) with e | ⟨L, l, e⟩
              ·have := HNJ.out; rw [e] at this; simp at this
              ·exact ⟨L, l, by rw [e, List.concat_eq_append]⟩
         have hLn : L.length = n' := by have := HNJ.out; rw [hL, List.length_append] at this; simp at this; omega
         obtain ⟨go, e0, e2, hpo⟩ : ∃ go, w6.cell? ⟨go, n' * 3, none⟩ = some (.int .i64 (l.1 : Int)) /\ w6.cell? ⟨go, n' * 3 + 2, none⟩ = some (.string (RS l.2.2)) /\ po = some ⟨go, 0, none⟩ := by
              rcases hown6.2 with ⟨_, h9⟩ | ⟨go, cap, cur, hvo, _⟩
              ·omega
              ·injection hvo with h1 h2 h3
               subst h1;have hget : ∀ k, k < 3 -> w6.cell? ⟨go, n' * 3 + k, none⟩ = (cellS l)[k]? := fun k hk => by
                rw [hown6.cellAt (n' * 3 + k) (by omega), hL];exact cellsS_get _ n' l (by rw [<- hLn]; simp) k hk
               exact ⟨go, hget 0 (by omega), hget 2 (by omega), rfl⟩
         subst hpo;have HL := hid hL
         have HR : Hid (∀ cr : Bool, (cr = true ↔ l.1 = s.1 /\ l.2.2 = x) -> (cr = true ↔ ∃ L l, Jn j = L ++ [l] /\ l.1 = s.1 /\ l.2.2 = x)) := fun cr h => by
              rw [h];constructor
              ·intro h; exact ⟨L, l, HL.out, h.1, h.2⟩
              ·rintro ⟨L', l', h1, h2, h3⟩
               rw [HL.out] at h1;have := (List.append_inj' h1 rfl).2;cases this;exact ⟨h2, h3⟩
         rw [show ((n' + 1 : Nat) : Int) = (n' : Int) + 1 from rfl];have hnz : (0 : Int) < (n' : Int) + 1 := by omega
         have hnd : decide ((0 : Int) < (n' : Int) + 1) = true := decide_eq_true hnz;have hw5 : IntKind.i64.wrap ((n' : Int) + 1 - 1) = (n' : Int) := by rw [show (n' : Int) + 1 - 1 = (n' : Int) by omega]; exact IntWalk.i64_in _ (by omega)
         have hw6 : IntKind.i64.wrap (n' : Int) = (n' : Int) := IntWalk.i64_in _ (by omega);have hn5 : (n' : Int) < (n' : Int) + 1 := by omega
         clear hL hLn hown6 h0 hnj;by_cases ht1 : l.1 = s.1
         ·have hb1 : ((l.1 : Int) == (s.1 : Int)) = true := by rw [ht1]; exact beq_self_eq_true _
          by_cases ht2 : l.2.2 = x
          ·have hs1 : (RS l.2.2).toList = (RS x).toList := by rw [ht2]
           have hs2 : ((RS l.2.2).toList == (RS x).toList) = true := by rw [hs1]; exact beq_self_eq_true _
           have HT : Hid (l.1 = s.1 /\ l.2.2 = x) := ⟨ht1, ht2⟩;clear ht1 ht2
           go_big_region
           all_goals
            go_wp2_with fail;go_meet;exact ⟨true, rfl, HR.out true ⟨fun _ => HT.out, fun _ => rfl⟩, 1, rfl⟩
          ·have hs1 : ¬ (RS l.2.2).toList = (RS x).toList := fun e => ht2 (RS_toList_inj e)
           have hs2 : ((RS l.2.2).toList == (RS x).toList) = false := by rw [beq_eq_false_iff_ne]; exact hs1
           have HT : Hid (¬ (l.1 = s.1 /\ l.2.2 = x)) := fun h => ht2 h.2;clear ht1 ht2
           go_big_region
           all_goals
            go_wp2_with fail;go_meet;exact ⟨false, rfl, HR.out false ⟨fun h => (by cases h), fun h => absurd h HT.out⟩, 1, rfl⟩
         ·have hb1 : ((l.1 : Int) == (s.1 : Int)) = false := by rw [beq_eq_false_iff_ne]; omega
          have HT : Hid (¬ (l.1 = s.1 /\ l.2.2 = x)) := fun h => ht1 h.1;clear ht1
          go_big_region
          all_goals
               go_wp2_with fail;go_meet;exact ⟨false, rfl, HR.out false ⟨fun h => (by cases h), fun h => absurd h HT.out⟩, 1, rfl⟩
       case rest =>
        obtain ⟨cr, rfl, HCR, nd, rfl⟩ := hcut;obtain ⟨w7, hw7⟩ : ∃ X, X = w6.drewN nd := ⟨_, rfl⟩;have hd7 : Below w6.heap.size w6 w7 := by rw [hw7]; exact below_drewN w6 nd
        rw [<- hw7];clear hw7;have a0 := zcq hd7 (Nat.lt_of_lt_of_le hbal hzz) a0;have d0 := zcq hd7 hli d0;have d1 := zcq hd7 ber6.lt d1;have hgl6 := World.block_lt_of_cell? w6 _ d2;have d2 := zcq hd7 hgl6 d2;have d3 := zcq hd7 hgl6 d3;have hown7 := World.ownsRow.belowAll hown6 hd7;have hbi7 := hbi6.below hd7 hbi6.lt;have hbr7 : Below W2.heap.size W2 w7 := hbr6.trans (hd7.mono hbr6.size);have hz7 := hbr7.size;have hl7 := hbi7.lt;have hn12 : n <= 12 := by omega
        clear hown6 hbi6 ber6 ownA6 hbr6 hrow6 hgl6 hd7;cases cr
        ·have HJX : Hid (Jn (j + 1) = Jn j ++ [(s.1, x, y)]) := by
              unfold Hid;rw [HJ1.out];rcases List.eq_nil_or_concat (Jn j) with e | ⟨L, l, e⟩
              ·rw [e, stepO_nil HFK.out HS.out]; rfl
              ·rw [List.concat_eq_append] at e
               rw [e, stepO_new HFK.out HS.out (fun h => by have := HCR.out.2 ⟨L, l, e, h.1, h.2⟩; cases this)]
         have HOB2 : Hid (some Bi ≠ (Value.slice po n co).ownBlock) := owns_boxN hown7 hbi7 (by decide)
         have HF : Hid (∀ w', Below W2.heap.size w7 w' -> BoxN w' Bi 3 [.int .i64 ((j : Int) + 1)] -> w'.cell? ⟨ba, oa + kk * 3, none⟩ = some (.int .i64 (s.1 : Int)) /\ w'.cell? ⟨w3.heap.size, 0, none⟩ = some (.slice (some ⟨g, 0, none⟩) E.length c5) /\ w'.cell? ⟨Bi, 0, none⟩ = some (.int .i64 ((j : Int) + 1)) /\ w'.cell? ⟨g, j, none⟩ = some (.string (RS x)) /\ w'.cell? ⟨g, j + 1, none⟩ = some (.string (RS y))) :=
              fun w' hb hx => ⟨(zcq hb hbal a0 :), (zcq hb hez d1 :), hx.cell 0 rfl, (zcq hb hg2 d2 :), (zcq hb hg2 d3 :)⟩
         have b0 : Below W2.heap.size w7 w7.drew := (below_drewN w7 1).mono hz7;have b0a : Below W2.heap.size w7 (w7.alloc (.cells #[.int .i64 (s.1 : Int), .string (RS x), .string (RS y)] 136)).drew := ((Below.refl _ _).alloc hz7 _).drew;have hbiD : BoxN w7.drew Bi 3 [.int .i64 ((j : Int) + 1)] := hbi7.drew;have hbiA : BoxN (w7.alloc (.cells #[.int .i64 (s.1 : Int), .string (RS x), .string (RS y)] 136)).drew Bi 3 [.int .i64 ((j : Int) + 1)] := (hbi7.alloc _).drew;clear a0 d0 d1 d2 d3;go_upto_region 28 with fail
         go_region_held3 (fun w' => w'.cell? ⟨ba, oa + kk * 3, none⟩ = some (.int .i64 (s.1 : Int)) /\ w'.cell? ⟨w3.heap.size, 0, none⟩ = some (.slice (some ⟨g, 0, none⟩) E.length c5) /\ w'.cell? ⟨Bi, 0, none⟩ = some (.int .i64 ((j : Int) + 1)) /\ w'.cell? ⟨g, j, none⟩ = some (.string (RS x)) /\ w'.cell? ⟨g, j + 1, none⟩ = some (.string (RS y)))
              ((refine HF.out _ ?_ ?_ <;> with_reducible assumption))
              (first
               | (refine step_append_lies _ (by rfl) (.tmp 123) (.tmp 139) 127 (by rfl) W2.heap.size 136 i0 (.agg #[.int .i64 0, .string ⟨#[]⟩, .string ⟨#[]⟩]) 3 40 Tryz.underlying127 hi hz0 hz1 hz2 rfl (by decide) _ n _ (by simp [Act.eval]) (hown7.alloc _) ⟨w7.heap.size, 0, none⟩ 1 1 [.int .i64 (s.1 : Int), .string (RS x), .string (RS y)] (by simp [Act.eval]) rfl (cell_three _ _ _ _ _) (span_one _ _ _) (by omega) (by unfold maxLen; omega) (by omega) (by simp; omega) _ rfl ?_
                  intro g8 cap8 w8 hown8 hgr8 hat8 hlt8;have h8 : Below W2.heap.size w7 w8 := b0a.grown hgr8 (by simp; omega) (fun j hj => (hown7.lt j hj).1);have hbi8 : BoxN w8 Bi 3 [.int .i64 ((j : Int) + 1)] := hbiA.gb hgr8 (fun e => HOB2.out e.symm)))
         all_goals
              have hown8' : w8.ownsRow W2.heap.size 136 3 (.slice (some ⟨g8, 0, none⟩) (n + 1) cap8) (n + 1) (cellsS (Jn (j + 1))) := by rw [HJX.out, cellsS_snoc]; exact hown8
              have hbr8 : Below W2.heap.size W2 w8 := hbr7.trans h8;have hz8 := hbr8.size;have HNX : Hid (n + 1 = (Jn (j + 1)).length) := by unfold Hid; rw [HJX.out, List.length_append, <- HNJ.out]; rfl
              have d0 := hbi8.cell 0 rfl;have hl8 := hbi8.lt;clear hown8 hgr8 hat8 HF b0 b0a hbiD hbiA h8 hown7 hbr7 hbi7;go_wp2_with fail
              go_roundg (E.length - (j + 1))
              case measure => omega
              case rel => exact ⟨j + 1, w8.heap.size, n + 1, rfl, .inl (by omega), Nat.le_refl _, BoxN.new _ _ _ _ rfl, hz8, HNX, by omega, hown8'.alloc _, hbr8.alloc hz8 _⟩
        ·obtain ⟨L, l, hL, ht1, ht2⟩ := HCR.out.1 rfl
         have hnL : n = L.length + 1 := by rw [HNJ.out, hL, List.length_append]; rfl
         obtain ⟨n', hn'⟩ : ∃ n', n' = L.length := ⟨_, rfl⟩;rw [<- hn'] at hnL;subst hnL;have HJX : Hid (Jn (j + 1) = L ++ [(l.1, l.2.1, y)]) := by unfold Hid; rw [HJ1.out, hL, stepO_ext HFK.out HS.out ⟨ht1, ht2⟩]
         have HNX : Hid (n' + 1 = (Jn (j + 1)).length) := by unfold Hid; rw [HJX.out, List.length_append, hn']; rfl
         obtain ⟨go, hpo⟩ : ∃ go, po = some ⟨go, 0, none⟩ := by
              rcases hown7.2 with ⟨_, h9⟩ | ⟨go, cap, cur, hvo, _⟩
              ·omega
              ·injection hvo with h1 h2 h3; exact ⟨go, h1⟩
         subst hpo
         have e2 : w7.cell? ⟨go, n' * 3 + 2, none⟩ = some (.string (RS l.2.2)) := by
              rw [hown7.cellAt (n' * 3 + 2) (by omega), hL];exact cellsS_get _ n' l (by rw [hn']; simp) 2 (by omega)
         have e2f := hown7.frozenAt (n' * 3 + 2);have hst := hown7.stored (n' * 3 + 2) (.string (RS y));have hgo := (hown7.lt go rfl).1;have HOB2 : Hid (some Bi ≠ (Value.slice (some ⟨go, 0, none⟩) (n' + 1) co).ownBlock) := owns_boxN hown7 hbi7 (by decide);obtain ⟨w8, hw8⟩ : ∃ X, X = w7.setCell ⟨go, n' * 3 + 2, none⟩ (.string (RS y)) := ⟨_, rfl⟩;rw [<- hw8] at hst
         have hown8 : w8.ownsRow W2.heap.size 136 3 (.slice (some ⟨go, 0, none⟩) (n' + 1) co) (n' + 1) (cellsS (Jn (j + 1))) := by
              have h1 := hst.1;have e : (cellsS (L ++ [l])).set (n' * 3 + 2) (.string (RS y)) = cellsS (Jn (j + 1)) := by rw [HJX.out, hn', cellsS_ext L l y]
              rw [hL, e] at h1;exact h1
         have hbi8 : BoxN w8 Bi 3 [.int .i64 ((j : Int) + 1)] := hbi7.gb hst.2 (fun e => HOB2.out e.symm);have hbr8 : Below W2.heap.size W2 w8 := by rw [hw8]; exact hbr7.setCell (p := ⟨go, n' * 3 + 2, none⟩) hgo _
         have hz8 := hbr8.size;have hl8 := hbi8.lt;have HW8 := hid hw8;have hnz : (0 : Int) <= (n' : Int) := by omega
         have hn5 : (n' : Int) < (n' : Int) + 1 := by omega
         rw [show ((n' + 1 : Nat) : Int) = (n' : Int) + 1 from rfl];clear hL hn' hst hown7 hbi7 hbr7 hw8 a0 d2 ht1 ht2;go_upto_region 29 with fail;rw [<- HW8.out];have d0' := hbi8.cell 0 rfl;clear d0 d1 d3 e2 e2f;go_wp2_with fail
         go_roundg (E.length - (j + 1))
         case measure => omega
         case rel => exact ⟨j + 1, w8.heap.size, n' + 1, rfl, .inl (by omega), Nat.le_refl _, BoxN.new _ _ _ _ rfl, hz8, HNX, by omega, hown8.alloc _, hbr8.alloc hz8 _⟩
      ·have HJX : Hid (Jn (j + 1) = Jn j) := by unfold Hid; rw [HJ1.out, stepO_none hfk]
       have d0 := hbi6.cell 0 rfl;have d0a : (w6.alloc (.cells #[.int .i64 ((j : Int) + 1)] 3)).cell? ⟨Bi, 0, none⟩ = some (.int .i64 ((j : Int) + 1)) := cell_alloc_l _ d0;clear hfk;go_wp2_with fail
       go_roundg (E.length - (j + 1))
       case measure => omega
       case rel => exact ⟨j + 1, w6.heap.size, n, rfl, .inl (by omega), Nat.le_refl _, BoxN.new _ _ _ _ rfl, hzz, by unfold Hid; rw [HJX.out]; exact HNJ.out, by omega, by rw [HJX.out]; exact hown6.alloc _, hbr6.alloc hzz _⟩
     ·have hjge : (E.length : Int) <= (j : Int) + 1 := by omega
      have HJE : Hid (j = E.length - 1) := by unfold Hid; omega
      have hn12 : n <= 12 := by omega
      obtain ⟨wo, hwo⟩ : ∃ wo : World, wo = wr := ⟨_, rfl⟩;subst hwo;have hRS : RdSp wo (.slice po n co) (Jn j) := by
       have h1 : RdC 3 wo (.slice po n co) n (cellsS (Jn j)) := RdC.of_owns hown;unfold RdSp; rw [<- HNJ.out]; exact h1
      have HRS := hid hRS;obtain ⟨_, _, hvA, hcA⟩ := hRS.cells;injection hvA with hvA1 hvA2 hvA3
      subst hvA1;clear hvA2 hvA3;have HCA := hid hcA;clear hcA hRS ber ownAr hRr;go_wp2_with fail;go_loopw [144] (fun t144 wr => ∃ q : Nat, t144 = .int .i64 q /\ q <= n /\ Below wo.heap.size wo wr) (fun t144 _ => n - (RowKit.intOf t144).toNat)
      case atStart => exact ⟨0, rfl, Nat.zero_le _, Below.refl _ _⟩
      case round =>
       obtain ⟨q, rfl, hqn, hbq⟩ := hrel;rcases Nat.lt_or_ge q n with h3 | h3
       ·obtain ⟨sp, hsp⟩ : ∃ sp, (Jn j)[q]? = some sp := ⟨_, List.getElem?_eq_getElem (by rw [<- HNJ.out]; exact h3)⟩
        have hsz := HJZ.out j sp (List.mem_of_getElem? hsp);obtain ⟨ba, oa, rfl, hbal, hcells⟩ := HCA.out (List.ne_nil_of_length_pos (by rw [<- HNJ.out]; omega));obtain ⟨k0, k1, k2⟩ := hcells q sp hsp;have k0 := zcq hbq hbal k0;have k1 := zcq hbq hbal k1;have k2 := zcq hbq hbal k2;have hqz : (q : Int) < (n : Int) := by omega
        have hbw : Below w.heap.size w wr := hbw2.trans (hbq.mono hbw2.size);have HSZ := hid hsz;have hzq := hbq.size;clear hcells hsp hsz;go_wp2_with fail;obtain ⟨w8, hw8⟩ : ∃ X, X = wr.alloc (.cells #[.int .i64 (sp.1 : Int), .string (RS sp.2.1), .string (RS sp.2.2)] 136) := ⟨_, rfl⟩;have hb8 : Below wr.heap.size wr w8 := by rw [hw8]; exact zal _ _
        have x8 : BoxN w8 wr.heap.size 136 [.int .i64 (sp.1 : Int), .string (RS sp.2.1), .string (RS sp.2.2)] := by rw [hw8]; exact BoxN.new _ _ _ _ rfl
        rw [<- hw8];have hbw8 := hbw.trans (hb8.mono hbw.size);have hbq8 := hbq.trans (hb8.mono hbq.size);clear hw8 k0 k1 k2;refine (ratChk_ok sp.2.1 HSZ.out.1 w8 (hg.below hbw8)).mono ?_;rintro e w9 ⟨_, rfl, rfl, hb9⟩;have x9 := x8.below hb9 x8.lt;have hbw9 := hbw8.trans (hb9.mono hbw8.size);have hbq9 := hbq8.trans (hb9.mono hbq8.size);have d2 := x9.cell 2 rfl;clear hb8 x8 hb9 hbw8 hbq8;go_wp2_with fail;refine (ratChk_ok sp.2.2 HSZ.out.2 w9 (hg.below hbw9)).mono ?_;rintro e w10 ⟨_, rfl, rfl, hb10⟩;have hbq10 := hbq9.trans (hb10.mono hbq9.size);clear hb10 d2 x9;go_wp2_with fail;go_roundw
        case rel => exact ⟨q + 1, by go_num, by omega, hbq10⟩
        case measure =>
         show n - ((q : Int) + 1).toNat < n - (q : Int).toNat;omega
       ·have hqge : (n : Int) <= (q : Int) := by omega
        have HR : Hid (RdSp wr (.slice po n co) (alongS (AN T.length))) := by
         unfold Hid; rw [HAF3.out, <- HJE.out]; exact RdC.below HRS.out hbq
        have hbw : Below w.heap.size w wr := hbw2.trans (hbq.mono hbw2.size);go_wp2_with fail;go_ret2;exact ⟨_, rfl, ⟨_, rfl, HR.out⟩, hbw⟩
theorem along_ok (w : World) (vp vt : Value) (P : List PtQ) (T : List Tri) (k m : Nat) (hp : RdP w vp (strP P)) (ht : RdT w vt T) (hm : MeshOK P T k) (hkm : k <= m) (hm7 : m <= 7) (ht6 : T.length <= 6) (a b : PtQ) (za : SzP m a) (zb : SzP m b) (hab : a ≠ b) (hg : Good w) :
 Calls Tryz.prog 57 #[.agg #[vp, vt], .agg #[.string (RS a.1), .string (RS a.2)], .agg #[.string (RS b.1), .string (RS b.2)]] w (Ret (fun r w' => ∃ v, r = .tuple #[v, .int .i64 0] /\ RdSp w' v (alongL P T a b)) w) :=
 along_gen w vp vt P T k m hp ht hm hkm (by omega) ht6 a b za zb hab (fun tr htr r hr => by
  obtain ⟨z0, z1, z2⟩ := ptI_SzP hm htr;have := withinF_Sz hm7 ⟨z0.1.mono hkm, z0.2.mono hkm⟩ ⟨z1.1.mono hkm, z1.2.mono hkm⟩ ⟨z2.1.mono hkm, z2.2.mono hkm⟩ za zb hr;exact ⟨this.1, this.2.1⟩) (fun i => spansN_Sz hm hkm hm7 za zb i) hg
theorem contains_of (w : World) (vp vt : Value) (sx sy : ByteArray) (P : List (ByteArray × ByteArray)) (T : List Tri) (hp : RdP w vp P) (ht : RdT w vt T) (Φ : Value -> World -> Prop) (b : Bool) (n : Int)
 (hΦ : ∀ r w', Φ r w' -> ∃ ps m cs, r = .tuple #[.slice ps m cs, .int .i64 n] /\ decide ((0 : Int) < (m : Int)) = b)
 (HL : ∀ w', Below w.heap.size w w' -> Calls Tryz.prog 37 #[.agg #[vp, vt], .agg #[.string sx, .string sy]] w' (Ret Φ w')) :
 Calls Tryz.prog 58 #[.agg #[vp, vt], .agg #[.string sx, .string sy]] w (Ret (fun r _ => r = .tuple #[.bool b, .int .i64 n]) w) := by
 have HL' := hid HL;have HF := hid hΦ;obtain ⟨pp, cp, rfl, -, -, -⟩ := hp.open;obtain ⟨pt, ct, rfl, -, -, -⟩ := ht.open;clear HL hΦ hp ht;go_enter Tryz.func58, Tryz.ntmps58;go_wp2_with fail;obtain ⟨W, hW⟩ : ∃ W, W = (w.alloc (.cells #[.slice pp P.length cp, .slice pt T.length ct] 35)).alloc (.cells #[.string sx, .string sy] 50) := ⟨_, rfl⟩;have hB : Below w.heap.size w W := by rw [hW]; exact zal2 _ _ _
 rw [<- hW];clear hW;refine (HL'.out W hB).mono ?_;rintro e w1 ⟨r, rfl, hr, hb1⟩;obtain ⟨ps, m, cs, rfl, hmb⟩ := HF.out _ _ hr;have hB1 := hB.trans (hb1.mono hB.size);clear hr hb1 hB;rcases Nat.eq_zero_or_pos m with rfl | hm
 ·obtain rfl : b = false := by rw [<- hmb]; rfl
  clear hmb;go_wp2_with fail;go_ret2;exact ⟨_, rfl, rfl, hB1⟩
 ·have hm1 : (0 : Int) < (m : Int) := by omega
  obtain rfl : b = true := by rw [<- hmb]; exact decide_eq_true hm1
  clear hmb;go_wp2_with fail;go_ret2;exact ⟨_, rfl, rfl, hB1⟩
theorem RdI.shape {w : World} {v : Value} {l : List Int} (h : RdI .i64 w v l) : ∃ ps cs, v = .slice ps l.length cs := by
 obtain ⟨ps, cs, rfl, -, -, -⟩ := h.open;exact ⟨ps, cs, rfl⟩
theorem contains_ok (w : World) (vp vt : Value) (P : List PtQ) (T : List Tri) (k : Nat) (hp : RdP w vp (strP P)) (ht : RdT w vt T) (hm : MeshOK P T k) (p : PtQ) (hpz : SzP 200 p) (hg : Good w) :
 Calls Tryz.prog 58 #[.agg #[vp, vt], .agg #[.string (RS p.1), .string (RS p.2)]] w (Ret (fun r _ => r = .tuple #[.bool (decide ((0 : Int) < ((locN P T p T.length).length : Int))), .int .i64 0]) w) := by
 refine contains_of w vp vt _ _ _ T hp ht _ _ 0 ?_ fun w' hb => locate_ok w' vp vt P T k (RdC.below hp hb) (RdC.below ht hb) hm p hpz (hg.below hb);rintro r w' ⟨v, rfl, hr⟩;obtain ⟨ps, cs, rfl⟩ := hr.shape;exact ⟨ps, _, cs, rfl, rfl⟩
abbrev Knt := Rat × Rat
def cellKn (c : Knt) : List Value := [.string (RS c.1), .string (RS c.2)]
def cellsKn (l : List Knt) : List Value := l.flatMap cellKn
theorem cellsKn_snoc (l : List Knt) (c : Knt) : cellsKn (l ++ [c]) = cellsKn l ++ [.string (RS c.1), .string (RS c.2)] := by simp [cellsKn, cellKn]
theorem info_Knot : ((Tryz.prog).info? 78).map (fun i => (i.zero, i.size, i.bytes)) = some (some (.agg #[.string ⟨#[]⟩, .string ⟨#[]⟩]), 2, 32) := by kernel_rfl
def knotQ (P : List PtQ) (F : List Rat) (tr : Tri) (a b : PtQ) (k : Rat) : Knt := (k, onQ P F tr (towQ a.1 b.1 k, towQ a.2 b.2 k))
theorem towQ_Sz {a b x : Rat} {m n : Nat} (ha : Sz m a) (hb : Sz m b) (hx : Sz n x) : Sz (3 * m + n + 2) (towQ a b x) := by
 unfold towQ;exact (ha.add (hx.mul (hb.sub ha))).mono (by omega)
structure BoxK (z : World) (b : Nat) : Prop where
 c0 : z.cell? ⟨b, 0, none⟩ = some (.string ⟨#[]⟩)
 c1 : z.cell? ⟨b, 1, none⟩ = some (.string ⟨#[]⟩)
 f0 : z.frozen? ⟨b, 0, none⟩ = false
 f1 : z.frozen? ⟨b, 1, none⟩ = false
 lt : b < z.heap.size
theorem BoxK.of {z : World} {b : Nat} (h : BoxN z b 50 [.string ⟨#[]⟩, .string ⟨#[]⟩]) : BoxK z b := ⟨h.cell 0 rfl, h.cell 1 rfl, h.frozen 0, h.frozen 1, h.lt⟩
theorem zk1 {x z : World} (h : Below (x.alloc (.cells #[.string ⟨#[]⟩, .string ⟨#[]⟩] 50)).heap.size (x.alloc (.cells #[.string ⟨#[]⟩, .string ⟨#[]⟩] 50)) z) : BoxN z x.heap.size 50 [.string ⟨#[]⟩, .string ⟨#[]⟩] := (BoxN.new _ _ _ _ rfl).below h (by simp)
theorem zk1d {x z : World} (h : Below (x.alloc (.cells #[.string ⟨#[]⟩, .string ⟨#[]⟩] 50)).drew.heap.size (x.alloc (.cells #[.string ⟨#[]⟩, .string ⟨#[]⟩] 50)).drew z) : BoxN z x.heap.size 50 [.string ⟨#[]⟩, .string ⟨#[]⟩] := (BoxN.new x _ _ _ rfl).drew.below h (by simp)
theorem boxK_set {w : World} {b t : Nat} {v0 v1 : Value} (h : BoxN w b t [.string ⟨#[]⟩, .string ⟨#[]⟩]) : BoxN ((w.setCell ⟨b, 0, none⟩ v0).setCell ⟨b, 1, none⟩ v1) b t [v0, v1] := (h.set 0 v0).set 1 v1
theorem boxK_far {w : World} {b c t i : Nat} {l : List Value} {v : Value} (h : BoxN w b t l) (hne : b ≠ c) : BoxN (w.setCell ⟨c, i, none⟩ v) b t l :=
 (Below.heap_setCell _ _ _ b (fun e => hne e)).trans h
theorem boxK_new (w : World) (v0 v1 : Value) (t n : Nat) (hn : w.heap.size = n) : BoxN (w.alloc (.cells #[v0, v1] t)) n t [v0, v1] := BoxN.new _ _ _ _ hn
theorem padd_any (w W : World) (bo ba bb bm bf : Nat) (vp vt vf : Value) (P : List PtQ) (T : List Tri) (k : Nat) (F : List Rat) (h : FieldIn w vp vt vf P T k F) (hW : Below w.heap.size w W) (hgW : Good w)
 (a b : PtQ) (x : Rat) (m n : Nat) (hm : m <= 100) (hkm : k <= m) (hmn : m <= n) (hn : n <= 200) (ha : SzP m a) (hb : SzP m b) (hx : Sz n x)
 (Ba : BoxN W ba 50 [.string (RS a.1), .string (RS a.2)]) (Bb : BoxN W bb 50 [.string (RS b.1), .string (RS b.2)]) (Bm : BoxN W bm 35 [vp, vt]) (Bf : BoxN W bf 38 [vf])
 (hbo : w.heap.size <= bo) (hboW : bo < W.heap.size) (na : ba ≠ bo) (nb : bb ≠ bo) (nm : bm ≠ bo) (nf : bf ≠ bo)
 (t : Nat) (htl : t < T.length) (tr : Tri) (htr : tr = T[t]) (hs : SzP 600 (slopeT P F tr))
 (wr : World) (L : List Knt) (vo : Value) (hgb : W.grownBy wr (some bo)) (Bo : BoxN wr bo 74 [vo]) (hown : wr.ownsRow W.heap.size 78 2 vo L.length (cellsKn L)) (hL : L.length <= 100) :
 Calls Tryz.prog 59 #[.int .i64 (t : Int), .string (RS x), .pointer (some ⟨ba, 0, none⟩), .pointer (some ⟨bb, 0, none⟩), .pointer (some ⟨bo, 0, none⟩), .pointer (some ⟨bm, 0, none⟩), .pointer (some ⟨bf, 0, none⟩)] wr (fun e w' => ∃ v', e = .returned (.tuple #[]) /\ W.grownBy w' (some bo) /\ BoxN w' bo 74 [v'] /\ w'.ownsRow W.heap.size 78 2 v' (L.length + 1) (cellsKn (L ++ [knotQ P F tr a b x])) /\ ∀ (c ty : Nat) (l : List Value), BoxN wr c ty l -> c ≠ bo -> vo.ownBlock ≠ some c -> BoxN w' c ty l) := by
 obtain ⟨i0, hi, hz0, hz1, hz2⟩ := info_parts info_Knot;have hm0 : 0 < m := by have := h.m.kpos; omega
 have HGD : Hid (∀ w', W.grownBy w' (some bo) -> Good w') := fun w' hb => hgW.below (below_gb hW hb hbo);have HX1 := hid fun w hg => ftoward_any a.1 b.1 x n (by omega) (by omega) (ha.1.mono hmn) (hb.1.mono hmn) hx w hg
 have HX2 := hid fun w hg => ftoward_any a.2 b.2 x n (by omega) (by omega) (ha.2.mono hmn) (hb.2.mono hmn) hx w hg
 have HON : Hid (∀ w', W.grownBy w' (some bo) -> _) := fun w' hb' => on_any w' vp vt vf P T k F (h.below (below_gb hW hb' hbo)) t t rfl htl tr htr (towQ a.1 b.1 x, towQ a.2 b.2 x) 600 (by omega) (by omega) hs ⟨(towQ_Sz ha.1 hb.1 hx).mono (by omega), (towQ_Sz ha.2 hb.2 hx).mono (by omega)⟩ (by omega) (HGD.out w' hb')
 have HKN : Hid (knotQ P F tr a b x = (x, onQ P F tr (towQ a.1 b.1 x, towQ a.2 b.2 x))) := rfl;have HBA := hid Ba;have HBB := hid Bb;have HBM := hid Bm;have HBF := hid Bf;have la := Ba.lt;have lb := Bb.lt;have lm := Bm.lt;have lf := Bf.lt;obtain ⟨pp, cp, pt, ct, pf, cf, rfl, rfl, rfl⟩ := h.open;dsimp only at HON;generalize knotQ P F tr a b x = kn at *;generalize onQ P F tr (towQ a.1 b.1 x, towQ a.2 b.2 x) = ov at *;generalize towQ a.1 b.1 x = tx at *;generalize towQ a.2 b.2 x = ty at *;have Bar := Ba.gb hgb (fun e => na (Option.some.inj e).symm);have Bbr := Bb.gb hgb (fun e => nb (Option.some.inj e).symm);have x0 := Bar.cell 0 rfl;have x1 := Bar.cell 1 rfl;have x2 := Bbr.cell 0 rfl;have x3 := Bbr.cell 1 rfl;have zs := hgb.size;have HS : Hid (∀ w', Below wr.heap.size wr w' -> w'.cell? ⟨ba, 0, none⟩ = some (.string (RS a.1)) /\ w'.cell? ⟨ba, 1, none⟩ = some (.string (RS a.2)) /\ w'.cell? ⟨bb, 0, none⟩ = some (.string (RS b.1)) /\ w'.cell? ⟨bb, 1, none⟩ = some (.string (RS b.2))) := fun w' hb => ⟨(zcq hb (Nat.lt_of_lt_of_le la zs) x0 :), (zcq hb (Nat.lt_of_lt_of_le la zs) x1 :), (zcq hb (Nat.lt_of_lt_of_le lb zs) x2 :), (zcq hb (Nat.lt_of_lt_of_le lb zs) x3 :)⟩;have q0 : Below wr.heap.size wr wr.drew := below_drewN wr 1;have hgr := HGD.out _ hgb;clear h hs ha hb hx Ba Bb Bm Bf Bar Bbr x0 x1 x2 x3;go_enter Tryz.func59, Tryz.ntmps59;go_upto_region 0 with fail;go_cut [9] (fun s9 wx => ∃ b9 : Nat, s9 = .pointer (some ⟨b9, 0, none⟩) /\ wr.heap.size <= b9 /\ BoxN wx b9 50 [.string (RS tx), .string (RS ty)] /\ Below wr.heap.size wr wx)
 case first =>
  go_region_held3 (fun w' => w'.cell? ⟨ba, 0, none⟩ = some (.string (RS a.1)) /\ w'.cell? ⟨ba, 1, none⟩ = some (.string (RS a.2)) /\ w'.cell? ⟨bb, 0, none⟩ = some (.string (RS b.1)) /\ w'.cell? ⟨bb, 1, none⟩ = some (.string (RS b.2)))
   ((refine HS.out _ ?_; repeat (first | with_reducible exact q2 | with_reducible exact q1 | with_reducible exact q0 | with_reducible exact Below.refl _ _ | with_reducible refine Below.drew ?_ | ((with_reducible refine Below.setCell ?_ ?_ _); rotate_left; (first | omega | (simp <;> omega))) | ((with_reducible refine Below.alloc ?_ ?_ _); rotate_left; (first | exact Nat.le_refl _ | omega | (simp <;> omega))))))
   (first
     | ((with_reducible refine Calls.mono (HX2.out _ (hgr.below ?_)) ?_); (focus repeat (first | with_reducible exact q2 | with_reducible exact q1 | with_reducible exact q0 | with_reducible exact Below.refl _ _ | with_reducible refine Below.drew ?_ | ((with_reducible refine Below.setCell ?_ ?_ _); rotate_left; (first | omega | (simp <;> omega))) | ((with_reducible refine Below.alloc ?_ ?_ _); rotate_left; (first | exact Nat.le_refl _ | omega | (simp <;> omega)))))
        rintro e z2 ⟨_, rfl, rfl, hy2⟩;have q2 : Below wr.heap.size wr z2 := (by refine Below.trans ?_ (hy2.mono ?_); rotate_left; (first | exact Nat.le_refl _ | omega | (simp <;> omega)); repeat (first | with_reducible exact q2 | with_reducible exact q1 | with_reducible exact q0 | with_reducible exact Below.refl _ _ | with_reducible refine Below.drew ?_ | ((with_reducible refine Below.setCell ?_ ?_ _); rotate_left; (first | omega | (simp <;> omega))) | ((with_reducible refine Below.alloc ?_ ?_ _); rotate_left; (first | exact Nat.le_refl _ | omega | (simp <;> omega)))));have sz2 := q2.size;have p2 : Below z1.heap.size z1 z2 := (by refine Below.trans ?_ (hy2.mono ?_); rotate_left; (first | exact Nat.le_refl _ | omega | (simp <;> omega)); repeat (first | with_reducible exact q2 | with_reducible exact q1 | with_reducible exact q0 | with_reducible exact Below.refl _ _ | with_reducible refine Below.drew ?_ | ((with_reducible refine Below.setCell ?_ ?_ _); rotate_left; (first | omega | (simp <;> omega))) | ((with_reducible refine Below.alloc ?_ ?_ _); rotate_left; (first | exact Nat.le_refl _ | omega | (simp <;> omega)))));have sz12 := p2.size
        (first | (have H8 := hid (E8.out.below p2 E8.out.lt)) | skip)
        (first | (have D8 := hid (zk1 hy2)) | skip)
        (first | (have H8f := BoxK.of H8.out; obtain ⟨u1, u2, u3, u4, u5⟩ := H8f) | skip)
        (first | (have D8f := BoxK.of D8.out; obtain ⟨v1, v2, v3, v4, v5⟩ := D8f) | skip))
     | ((with_reducible refine Calls.mono (HX1.out _ (hgr.below ?_)) ?_); (focus repeat (first | with_reducible exact q2 | with_reducible exact q1 | with_reducible exact q0 | with_reducible exact Below.refl _ _ | with_reducible refine Below.drew ?_ | ((with_reducible refine Below.setCell ?_ ?_ _); rotate_left; (first | omega | (simp <;> omega))) | ((with_reducible refine Below.alloc ?_ ?_ _); rotate_left; (first | exact Nat.le_refl _ | omega | (simp <;> omega)))))
        rintro e z1 ⟨_, rfl, rfl, hy1⟩;have q1 : Below wr.heap.size wr z1 := (by refine Below.trans ?_ (hy1.mono ?_); rotate_left; (first | exact Nat.le_refl _ | omega | (simp <;> omega)); repeat (first | with_reducible exact q2 | with_reducible exact q1 | with_reducible exact q0 | with_reducible exact Below.refl _ _ | with_reducible refine Below.drew ?_ | ((with_reducible refine Below.setCell ?_ ?_ _); rotate_left; (first | omega | (simp <;> omega))) | ((with_reducible refine Below.alloc ?_ ?_ _); rotate_left; (first | exact Nat.le_refl _ | omega | (simp <;> omega)))));have sz1 := q1.size
        (first | (have E8 := hid (zk1d hy1)) | skip)))
  all_goals
   go_wp2_with fail;go_meet;refine ⟨_, rfl, ?_, ?_, ?_⟩
   ·first | exact Nat.le_refl _ | omega | (simp; omega) | (simp)
   ·repeat (first | with_reducible exact H8.out | with_reducible exact D8.out | with_reducible refine BoxN.drew ?_ | with_reducible refine boxK_set ?_ | ((with_reducible refine boxK_new _ _ _ _ _ ?_); (first | rfl | (simp <;> omega))) | with_reducible refine BoxN.alloc ?_ _)
   ·repeat (first | with_reducible exact q2 | with_reducible exact q1 | with_reducible exact q0 | with_reducible exact Below.refl _ _ | with_reducible refine Below.drew ?_ | ((with_reducible refine Below.setCell ?_ ?_ _); rotate_left; (first | omega | (simp <;> omega))) | ((with_reducible refine Below.alloc ?_ ?_ _); rotate_left; (first | exact Nat.le_refl _ | omega | (simp <;> omega))))
 case rest =>
 obtain ⟨b9, rfl, h9, B9, hbW⟩ := hcut;obtain ⟨po, co, rfl⟩ := ownsRow_shape hown;have HKA : Hid (∀ w', W.grownBy w' (some bo) -> BoxN w' b9 50 [.string (RS tx), .string (RS ty)] -> (w'.cell? ⟨bm, 0, none⟩ = some (.slice pp P.length cp) /\ w'.cell? ⟨bm, 1, none⟩ = some (.slice pt T.length ct)) /\ w'.cell? ⟨bf, 0, none⟩ = some (.slice pf F.length cf) /\ w'.cell? ⟨b9, 0, none⟩ = some (.string (RS tx)) /\ w'.cell? ⟨b9, 1, none⟩ = some (.string (RS ty))) := fun w' hb h9 => by
  have y1 := HBM.out.gb hb (fun e => nm (Option.some.inj e).symm);have y2 := HBF.out.gb hb (fun e => nf (Option.some.inj e).symm);exact ⟨⟨y1.cell 0 rfl, y1.cell 1 rfl⟩, y2.cell 0 rfl, h9.cell 0 rfl, h9.cell 1 rfl⟩
 have l9 := B9.lt;have n9 : b9 ≠ bo := by have := hgb.size; omega
 have gb0 : W.grownBy wc.drew (some bo) := gb_below (gb_below hgb hbW) (below_drewN wc 1);have bm0 : BoxN wc.drew bo 74 [.slice po L.length co] := (Bo.below hbW Bo.lt).drew;have B90 : BoxN wc.drew b9 50 [.string (RS tx), .string (RS ty)] := B9.drew;have ow0 := World.ownsRow.belowAll (World.ownsRow.belowAll hown hbW) (below_drewN wc 1);have d0 := bm0.cell 0 rfl;have own9 : ∀ j, (Value.slice po L.length co).ownBlock = some j -> j ≠ b9 := fun j hj => by have := (hown.lt j hj).2; omega
 clear HS q0 hgr hown Bo B9;go_upto_region 1 with fail;refine AnyL.region (S := Till 9 (fun w' => (w'.cell? ⟨bm, 0, none⟩ = some (.slice pp P.length cp) /\ w'.cell? ⟨bm, 1, none⟩ = some (.slice pt T.length ct)) /\ w'.cell? ⟨bf, 0, none⟩ = some (.slice pf F.length cf) /\ w'.cell? ⟨b9, 0, none⟩ = some (.string (RS tx)) /\ w'.cell? ⟨b9, 1, none⟩ = some (.string (RS ty))) (fun w' => w'.cell? ⟨bo, 0, none⟩ = some (.slice po L.length co))) (by kernel_rfl) ?_;have hHeld : Till 9 (fun w' => (w'.cell? ⟨bm, 0, none⟩ = some (.slice pp P.length cp) /\ w'.cell? ⟨bm, 1, none⟩ = some (.slice pt T.length ct)) /\ w'.cell? ⟨bf, 0, none⟩ = some (.slice pf F.length cf) /\ w'.cell? ⟨b9, 0, none⟩ = some (.string (RS tx)) /\ w'.cell? ⟨b9, 1, none⟩ = some (.string (RS ty))) (fun w' => w'.cell? ⟨bo, 0, none⟩ = some (.slice po L.length co)) (Array.replicate 11 false) _ := ⟨HKA.out _ gb0 B90, fun _ => d0⟩;refine AnyL.take2 (i := 0) (oi := _) (v := ?_) rfl (by kernel_rfl) (by kernel_rfl) (by kernel_rfl) (by decide) (ok := _) rfl (by kernel_rfl) (by kernel_rfl) (fun _ _ _ h => h) (Or.inl ⟨by rfl, ?_⟩) ⟨hHeld.1, fun _ => hHeld.2 (by rfl)⟩ ?_;rotate_left
 ·intro w hSw; (try dsimp only at hSw); first | (go_simp; done) | (go_simp; with_reducible rfl)
 try simp only [Act.put]
 refine zlk 1 hHeld ?_;try simp only [Act.put]
 refine zlk 2 hHeld ?_;try simp only [Act.put]
 refine zlk 3 hHeld ?_;try simp only [Act.put]
 refine zlk 4 hHeld ?_;try simp only [Act.put]
 refine zlk 5 hHeld ?_;try simp only [Act.put]
 refine AnyL.one (i := 6) (o := _) (by kernel_rfl) rfl (fun K hK => ?_);go_simp
 (refine (HON.out _ gb0).mono ?_; rintro e y1 ⟨_, rfl, rfl, hy1⟩; have gb1 := gb_below gb0 hy1; have bm1 := bm0.below hy1 bm0.lt; have B91 := B90.below hy1 B90.lt; have ow1 := World.ownsRow.belowAll ow0 hy1; have d1 := bm1.cell 0 rfl)
 refine hK.out _ _ ⟨HKA.out _ gb1 B91, fun hk => d1⟩ (fun hHeld => ?_);clear hK K;try simp only [Act.put]
 refine zlk 7 hHeld ?_;try simp only [Act.put]
 refine AnyL.one (i := 8) (o := _) (by kernel_rfl) rfl (fun K hK => ?_);go_simp;refine hK.out _ _ ⟨HKA.out _ (gb_alloc gb1 _) (B91.alloc _), fun hk => cell_alloc_l _ d1⟩ (fun hHeld => ?_);clear hK K;try simp only [Act.put]
 refine AnyL.one (i := 9) (o := _) (by kernel_rfl) rfl (fun K hK => ?_)
 (refine step_append_lies _ (by rfl) (.tmp 23) (.tmp 31) 74 (by rfl) W.heap.size 78 i0 (.agg #[.string ⟨#[]⟩, .string ⟨#[]⟩]) 2 32 Tryz.underlying74 hi hz0 hz1 hz2 rfl (by decide) _ L.length _ (by simp [Act.eval]) (ow1.alloc _) ⟨y1.heap.size, 0, none⟩ 1 1 [.string (RS x), .string (RS ov)] (by simp [Act.eval]) rfl (cell_two _ _ _ _) (two_str _ _) (by omega) (by unfold maxLen; omega) (by omega) (by have := gb1.size; simp; omega) _ rfl ?_; intro g7 cap7 w7 hown7 hgr7 hat7 hlt7; have bm7 := (bm1.alloc (.cells #[.string (RS x), .string (RS ov)] 78)).gb hgr7 (fun e => by have := (ow1.lt _ e).1; omega); have B97 := (B91.alloc (.cells #[.string (RS x), .string (RS ov)] 78)).gb hgr7 (fun e => own9 _ e rfl); have gb7 := gb_grown (gb_alloc gb1 (.cells #[.string (RS x), .string (RS ov)] 78)) hgr7 (fun j hj => by have := (ow1.lt j hj).1; omega); have kc7 := bm7.cell 0 rfl; have kf7 := bm7.frozen 0)
 refine hK.out _ _ ⟨HKA.out _ gb7 B97, fun hk => (by simp at hk)⟩ (fun hHeld => ?_);clear hK K;try simp only [Act.put]
 refine AnyL.one (i := 10) (o := _) (by kernel_rfl) rfl (fun K hK => ?_);go_simp;refine hK.out _ _ ⟨HKA.out _ (gb_set gb7 0 _) (boxK_far B97 n9), fun hk => (by simp at hk)⟩ (fun hHeld => ?_);clear hK K;try simp only [Act.put]
 refine AnyL.done (by kernel_rfl) ?_ _;all_goals
  go_wp2_with fail;go_end0;exact ⟨_, rfl, gb_set gb7 0 _, bm7.set 0 _, by rw [HKN.out, cellsKn_snoc]; exact ownsRow_setCell_below hown7 hboW _, fun c ty l hbx hne hno => boxK_far ((((hbx.below hbW hbx.lt).drew.below hy1 (Nat.lt_of_lt_of_le hbx.lt hbW.size)).alloc (.cells #[.string (RS x), .string (RS ov)] 78)).gb hgr7 (fun e => hno e)) hne⟩
end Go.Proofs.YtbfcmipplhkkeaaGreatDoor
