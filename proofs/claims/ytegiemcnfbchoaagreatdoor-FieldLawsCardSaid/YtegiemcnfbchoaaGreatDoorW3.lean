import Derived.Test.YtegiemcnfbchoaaGreatDoorK3
import Derived.BigRegion
/- The walks over mesh.corners, mesh.inside. The walk over mesh.Locate. The walks over field.on, field.number, field.Value. -/
set_option maxHeartbeats 4000000
set_option maxRecDepth 100000
namespace Go.Proofs.YtegiemcnfbchoaaGreatDoor
open Go.RowKit Go.Lib
theorem drew_cell (X : World) (p : Addr) : X.drew.cell? p = X.cell? p := rfl
theorem cell_far6 (X : World) (b : Nat) (v0 v1 v2 v3 v4 v5 : Value) (p : Addr) (h : b ≠ p.block) :
 ((((((X.setCell ⟨b, 0, none⟩ v0).setCell ⟨b, 1, none⟩ v1).setCell ⟨b, 2, none⟩ v2).setCell ⟨b, 3, none⟩ v3).setCell ⟨b, 4, none⟩ v4).setCell ⟨b, 5, none⟩ v5).drew.cell? p = X.cell? p := by
 rw [drew_cell, World.cell?_setCell_far _ _ _ _ h, World.cell?_setCell_far _ _ _ _ h, World.cell?_setCell_far _ _ _ _ h, World.cell?_setCell_far _ _ _ _ h, World.cell?_setCell_far _ _ _ _ h, World.cell?_setCell_far _ _ _ _ h]
theorem mcorners_any (w : World) (vp vt : Value) (P : List PtQ) (T : List Tri) (k : Nat) (hp : RdP w vp (strP P)) (ht : RdT w vt T) (hm : MeshIn P T k) (t : Nat) (tz : Int) (htz : tz = (t : Int)) (htl : t < T.length) (tr : Tri) (htr : tr = T[t]) :
 Calls Tryz.prog 43 #[.agg #[vp, vt], .int .i64 tz] w (Ret (fun r _ => r = .agg #[.string (RS (ptI P tr.1).1), .string (RS (ptI P tr.1).2), .string (RS (ptI P tr.2.1).1), .string (RS (ptI P tr.2.1).2), .string (RS (ptI P tr.2.2).1), .string (RS (ptI P tr.2.2).2)]) w) := by
 obtain ⟨pp, cp, rfl, hpc, hpm, hpr⟩ := hp.open
 obtain ⟨pt, ct, rfl, htc, htm, htr'⟩ := ht.open
 rw [strP_length] at hpc ⊢
 obtain ⟨bt, ot, rfl, hbt, htcell⟩ := htr' (List.ne_nil_of_length_pos (by omega))
 obtain ⟨e0, e1, e2⟩ := htcell t htl
 have hidx := hm.idx tr (by rw [htr]; exact List.getElem_mem htl)
 rw [← htr] at e0 e1 e2
 obtain ⟨q0z, q1z, q2z⟩ := tr
 dsimp only at hidx e0 e1 e2 ⊢
 obtain ⟨a00, a01⟩ := hidx q0z (by simp [idxOf])
 obtain ⟨a10, a11⟩ := hidx q1z (by simp [idxOf])
 obtain ⟨a20, a21⟩ := hidx q2z (by simp [idxOf])
 obtain ⟨q0, rfl⟩ : ∃ q : Nat, q0z = (q : Int) := ⟨q0z.toNat, by omega⟩
 obtain ⟨q1, rfl⟩ : ∃ q : Nat, q1z = (q : Int) := ⟨q1z.toNat, by omega⟩
 obtain ⟨q2, rfl⟩ : ∃ q : Nat, q2z = (q : Int) := ⟨q2z.toNat, by omega⟩
 have g0 : q0 < P.length := by omega
 have g1 : q1 < P.length := by omega
 have g2 : q2 < P.length := by omega
 obtain ⟨bp, op, rfl, hbp, hpc'⟩ := hpr (by intro e; have h := strP_length P; rw [e] at h; simp at h; omega)
 rw [ptI_nat P q0 g0, ptI_nat P q1 g1, ptI_nat P q2 g2]
 obtain ⟨k00, k01⟩ := hpc' q0 (by rw [strP_length]; exact g0)
 obtain ⟨k10, k11⟩ := hpc' q1 (by rw [strP_length]; exact g1)
 obtain ⟨k20, k21⟩ := hpc' q2 (by rw [strP_length]; exact g2)
 rw [strP_get P q0 g0] at k00 k01
 rw [strP_get P q1 g1] at k10 k11
 rw [strP_get P q2 g2] at k20 k21
 dsimp only at k00 k01 k10 k11 k20 k21
 have f0 : (q0 : Int) < (P.length : Int) := by omega
 have f1 : (q1 : Int) < (P.length : Int) := by omega
 have f2 : (q2 : Int) < (P.length : Int) := by omega
 have ft : (t : Int) < (T.length : Int) := by omega
 generalize RS P[q0].1 = x0s at *
 generalize RS P[q0].2 = y0s at *
 generalize RS P[q1].1 = x1s at *
 generalize RS P[q1].2 = y1s at *
 generalize RS P[q2].1 = x2s at *
 generalize RS P[q2].2 = y2s at *
 subst htz
 clear htr hidx hpr htr' htcell hpc' hp ht hm a00 a01 a10 a11 a20 a21 g0 g1 g2
 have i0 := idx_T0
 have i1 := idx_T1
 have i2 := idx_T2
 go_enter Tryz.func43, Tryz.ntmps43
 go_wp2_with fail
 obtain ⟨W, hW⟩ : ∃ W, W = ((w.alloc (.cells #[.slice (some ⟨bp, op, none⟩) P.length cp, .slice (some ⟨bt, ot, none⟩) T.length ct] 38)).alloc (.cells #[.string ⟨#[]⟩, .string ⟨#[]⟩, .string ⟨#[]⟩, .string ⟨#[]⟩, .string ⟨#[]⟩, .string ⟨#[]⟩] 103)).alloc (.cells #[.int .i64 q0, .int .i64 q1, .int .i64 q2] 71) := ⟨_, rfl⟩
 have hB : Below w.heap.size w W := by rw [hW]; exact (((Below.refl _ _).alloc (Nat.le_refl _) _).alloc (by simp) _).alloc (by simp; omega) _
 have b5 : BoxN W (w.heap.size + 1 + 1) 71 [.int .i64 q0, .int .i64 q1, .int .i64 q2] := by rw [hW]; exact BoxN.new _ _ _ _ (by simp)
 have b4 : BoxN W (w.heap.size + 1) 103 [.string ⟨#[]⟩, .string ⟨#[]⟩, .string ⟨#[]⟩, .string ⟨#[]⟩, .string ⟨#[]⟩, .string ⟨#[]⟩] := by
  rw [hW]
  have h1 := (BoxN.new (w.alloc (.cells #[.slice (some ⟨bp, op, none⟩) P.length cp, .slice (some ⟨bt, ot, none⟩) T.length ct] 38)) #[.string ⟨#[]⟩, .string ⟨#[]⟩, .string ⟨#[]⟩, .string ⟨#[]⟩, .string ⟨#[]⟩, .string ⟨#[]⟩] 103 (w.heap.size + 1) (by simp))
  exact h1.below (zal _ _) h1.lt
 have b2 : BoxN W w.heap.size 38 [.slice (some ⟨bp, op, none⟩) P.length cp, .slice (some ⟨bt, ot, none⟩) T.length ct] := by
  rw [hW]
  have h1 := (BoxN.new w #[.slice (some ⟨bp, op, none⟩) P.length cp, .slice (some ⟨bt, ot, none⟩) T.length ct] 38 _ rfl)
  exact h1.below (((Below.refl _ _).alloc (Nat.le_refl _) _).alloc (by simp) _) h1.lt
 rw [← hW]
 clear hW
 have x0 := b2.cell 0 rfl
 have t0 := b5.cell 0 rfl
 have t1 := b5.cell 1 rfl
 have t2 := b5.cell 2 rfl
 have c00 := zcq hB hbp k00
 have c01 := zcq hB hbp k01
 have c10 := zcq hB hbp k10
 have c11 := zcq hB hbp k11
 have c20 := zcq hB hbp k20
 have c21 := zcq hB hbp k21
 have r0 := b4.cell 0 rfl
 have r1 := b4.cell 1 rfl
 have r2 := b4.cell 2 rfl
 have r3 := b4.cell 3 rfl
 have r4 := b4.cell 4 rfl
 have r5 := b4.cell 5 rfl
 have r0f := b4.frozen 0
 have r1f := b4.frozen 1
 have r2f := b4.frozen 2
 have r3f := b4.frozen 3
 have r4f := b4.frozen 4
 have r5f := b4.frozen 5
 have hz := b5.lt
 have n2 : w.heap.size + 1 ≠ w.heap.size := by omega
 have n5 : w.heap.size + 1 ≠ w.heap.size + 1 + 1 := by omega
 have np : w.heap.size + 1 ≠ bp := by omega
 have HS : Hid (W.drew.cell? ⟨w.heap.size, 0, none⟩ = some (.slice (some ⟨bp, op, none⟩) P.length cp) ∧ W.drew.cell? ⟨w.heap.size + 1 + 1, 0, none⟩ = some (.int .i64 q0) ∧ W.drew.cell? ⟨w.heap.size + 1 + 1, 1, none⟩ = some (.int .i64 q1) ∧ W.drew.cell? ⟨w.heap.size + 1 + 1, 2, none⟩ = some (.int .i64 q2) ∧ W.drew.cell? ⟨bp, op + q0 * 2, none⟩ = some (.string x0s) ∧ W.drew.cell? ⟨bp, op + q0 * 2 + 1, none⟩ = some (.string y0s) ∧ W.drew.cell? ⟨bp, op + q1 * 2, none⟩ = some (.string x1s) ∧ W.drew.cell? ⟨bp, op + q1 * 2 + 1, none⟩ = some (.string y1s) ∧ W.drew.cell? ⟨bp, op + q2 * 2, none⟩ = some (.string x2s) ∧ W.drew.cell? ⟨bp, op + q2 * 2 + 1, none⟩ = some (.string y2s)) := ⟨x0, t0, t1, t2, c00, c01, c10, c11, c20, c21⟩
 have HT : Hid (W.cell? ⟨w.heap.size, 0, none⟩ = some (.slice (some ⟨bp, op, none⟩) P.length cp) ∧ W.cell? ⟨w.heap.size + 1 + 1, 0, none⟩ = some (.int .i64 q0) ∧ W.cell? ⟨w.heap.size + 1 + 1, 1, none⟩ = some (.int .i64 q1) ∧ W.cell? ⟨w.heap.size + 1 + 1, 2, none⟩ = some (.int .i64 q2) ∧ W.cell? ⟨bp, op + q0 * 2, none⟩ = some (.string x0s) ∧ W.cell? ⟨bp, op + q0 * 2 + 1, none⟩ = some (.string y0s) ∧ W.cell? ⟨bp, op + q1 * 2, none⟩ = some (.string x1s) ∧ W.cell? ⟨bp, op + q1 * 2 + 1, none⟩ = some (.string y1s) ∧ W.cell? ⟨bp, op + q2 * 2, none⟩ = some (.string x2s) ∧ W.cell? ⟨bp, op + q2 * 2 + 1, none⟩ = some (.string y2s)) := ⟨x0, t0, t1, t2, c00, c01, c10, c11, c20, c21⟩
 clear k00 k01 k10 k11 k20 k21 e0 e1 e2
 have hBW := Lib.hid hB
 clear x0 t0 t1 t2 c00 c01 c10 c11 c20 c21 b2 b5 hB
 go_region_held3 (fun w' => w'.cell? ⟨w.heap.size, 0, none⟩ = some (.slice (some ⟨bp, op, none⟩) P.length cp) ∧ w'.cell? ⟨w.heap.size + 1 + 1, 0, none⟩ = some (.int .i64 q0) ∧ w'.cell? ⟨w.heap.size + 1 + 1, 1, none⟩ = some (.int .i64 q1) ∧ w'.cell? ⟨w.heap.size + 1 + 1, 2, none⟩ = some (.int .i64 q2) ∧ w'.cell? ⟨bp, op + q0 * 2, none⟩ = some (.string x0s) ∧ w'.cell? ⟨bp, op + q0 * 2 + 1, none⟩ = some (.string y0s) ∧ w'.cell? ⟨bp, op + q1 * 2, none⟩ = some (.string x1s) ∧ w'.cell? ⟨bp, op + q1 * 2 + 1, none⟩ = some (.string y1s) ∧ w'.cell? ⟨bp, op + q2 * 2, none⟩ = some (.string x2s) ∧ w'.cell? ⟨bp, op + q2 * 2 + 1, none⟩ = some (.string y2s))
  (first | with_reducible exact HS.out | (obtain ⟨h1, h2, h3, h4, h5, h6, h7, h8, h9, h10⟩ := HT.out; with_reducible exact ⟨(cell_far6 _ _ _ _ _ _ _ _ _ n2).trans h1, (cell_far6 _ _ _ _ _ _ _ _ _ n5).trans h2, (cell_far6 _ _ _ _ _ _ _ _ _ n5).trans h3, (cell_far6 _ _ _ _ _ _ _ _ _ n5).trans h4, (cell_far6 _ _ _ _ _ _ _ _ _ np).trans h5, (cell_far6 _ _ _ _ _ _ _ _ _ np).trans h6, (cell_far6 _ _ _ _ _ _ _ _ _ np).trans h7, (cell_far6 _ _ _ _ _ _ _ _ _ np).trans h8, (cell_far6 _ _ _ _ _ _ _ _ _ np).trans h9, (cell_far6 _ _ _ _ _ _ _ _ _ np).trans h10⟩))
  (fail)
 all_goals
  go_wp2_with fail
  have BF := (((((b4.set 0 (.string x0s)).set 1 (.string y0s)).set 2 (.string x1s)).set 3 (.string y1s)).set 4 (.string x2s)).set 5 (.string y2s)
  have g0 := BF.cell 0 rfl
  have g1 := BF.cell 1 rfl
  have g2 := BF.cell 2 rfl
  have g3 := BF.cell 3 rfl
  have g4 := BF.cell 4 rfl
  have g5 := BF.cell 5 rfl
  have hBF : Below w.heap.size w (((((((W.setCell ⟨w.heap.size + 1, 0, none⟩ (.string x0s)).setCell ⟨w.heap.size + 1, 1, none⟩ (.string y0s)).setCell ⟨w.heap.size + 1, 2, none⟩ (.string x1s)).setCell ⟨w.heap.size + 1, 3, none⟩ (.string y1s)).setCell ⟨w.heap.size + 1, 4, none⟩ (.string x2s)).setCell ⟨w.heap.size + 1, 5, none⟩ (.string y2s)).drew) := by
   have h1 : w.heap.size ≤ w.heap.size + 1 := by omega
   have := (((((hBW.out.setCell (p := ⟨w.heap.size + 1, 0, none⟩) h1 (.string x0s)).setCell (p := ⟨w.heap.size + 1, 1, none⟩) h1 (.string y0s)).setCell (p := ⟨w.heap.size + 1, 2, none⟩) h1 (.string x1s)).setCell (p := ⟨w.heap.size + 1, 3, none⟩) h1 (.string y1s)).setCell (p := ⟨w.heap.size + 1, 4, none⟩) h1 (.string x2s)).setCell (p := ⟨w.heap.size + 1, 5, none⟩) h1 (.string y2s)
   exact this.trans ((below_drewN _ 1).mono this.size)
  exact bodyPost_ret (v := .agg #[.string x0s, .string y0s, .string x1s, .string y1s, .string x2s, .string y2s]) (by simp [results, Tryz.results43, go_sem, g0, g1, g2, g3, g4, g5]) rfl ⟨_, rfl, rfl, hBF⟩
def insideB (a b c p : PtQ) : Bool := decide (0 ≤ turnZ a b p) && decide (0 ≤ turnZ b c p) && decide (0 ≤ turnZ c a p)
theorem inside_any (a b c p : PtQ) (k : Nat) (hk : 0 < k) (hk2 : k ≤ 2000) (ha : SzP k a) (hb : SzP k b) (hc : SzP k c) (hp : SzP k p) (w : World) (hg : Good w) :
 Calls Tryz.prog 119 #[.agg #[.string (RS a.1), .string (RS a.2), .string (RS b.1), .string (RS b.2), .string (RS c.1), .string (RS c.2)], .agg #[.string (RS p.1), .string (RS p.2)]] w (Ret (fun r _ => r = .bool (insideB a b c p)) w) := by
 have H1 : Hid (∀ w, Good w → _) := fun w hg => turn_any a b p k hk hk2 ha hb hp w hg
 have H2 : Hid (∀ w, Good w → _) := fun w hg => turn_any b c p k hk hk2 hb hc hp w hg
 have H3 : Hid (∀ w, Good w → _) := fun w hg => turn_any c a p k hk hk2 hc ha hp w hg
 unfold insideB
 unfold VP at H1 H2 H3
 generalize turnZ a b p = z1 at *
 generalize turnZ b c p = z2 at *
 generalize turnZ c a p = z3 at *
 generalize RS a.1 = ax at *
 generalize RS a.2 = ay at *
 generalize RS b.1 = bx at *
 generalize RS b.2 = by' at *
 generalize RS c.1 = cx at *
 generalize RS c.2 = cy at *
 generalize RS p.1 = px at *
 generalize RS p.2 = py at *
 clear ha hb hc hp
 go_enter Tryz.func119, Tryz.ntmps119
 go_wp2_with fail
 obtain ⟨W, hW⟩ : ∃ W, W = (w.alloc (.cells #[.string ax, .string ay, .string bx, .string by', .string cx, .string cy] 103)).alloc (.cells #[.string px, .string py] 33) := ⟨_, rfl⟩
 have hB : Below w.heap.size w W := by rw [hW]; exact zal2 _ _ _
 have e3 : BoxN W (w.heap.size + 1) 33 [.string px, .string py] := by rw [hW]; exact BoxN.new _ _ _ _ (by simp)
 have e2 : BoxN W w.heap.size 103 [.string ax, .string ay, .string bx, .string by', .string cx, .string cy] := by
  rw [hW]
  have h1 := (BoxN.new w #[.string ax, .string ay, .string bx, .string by', .string cx, .string cy] 103 _ rfl)
  exact h1.below (zal _ _) h1.lt
 rw [← hW]
 clear hW
 refine (H1.out W (hg.below hB)).mono ?_
 rintro e w1 ⟨_, rfl, rfl, hb1⟩
 have hB1 := hB.trans (hb1.mono hB.size)
 have e21 := e2.below hb1 e2.lt
 have e31 := e3.below hb1 e3.lt
 clear hb1 hB e2 e3
 rcases Int.lt_or_le z1 0 with h1 | h1
 ·have d1 : decide (0 ≤ z1) = false := decide_eq_false (by omega)
  go_wp2_with fail
  go_ret
  exact ⟨_, rfl, by rw [d1]; rfl, hB1⟩
 have x0 := e21.cell 0 rfl
 have x1 := e21.cell 1 rfl
 have x2 := e21.cell 2 rfl
 have x3 := e21.cell 3 rfl
 have x4 := e21.cell 4 rfl
 have x5 := e21.cell 5 rfl
 have y0 := e31.cell 0 rfl
 have y1 := e31.cell 1 rfl
 go_wp2_with fail
 refine (H2.out w1 (hg.below hB1)).mono ?_
 rintro e w2 ⟨_, rfl, rfl, hb2⟩
 have hB2 := hB1.trans (hb2.mono hB1.size)
 have e22 := e21.below hb2 e21.lt
 have e32 := e31.below hb2 e31.lt
 have d1 : decide (0 ≤ z1) = true := decide_eq_true h1
 clear hb2 hB1 e21 e31 x0 x1 x2 x3 x4 x5 y0 y1
 rcases Int.lt_or_le z2 0 with h2 | h2
 ·have d2 : decide (0 ≤ z2) = false := decide_eq_false (by omega)
  go_wp2_with fail
  go_ret
  exact ⟨_, rfl, by rw [d1, d2]; rfl, hB2⟩
 have x0 := e22.cell 0 rfl
 have x1 := e22.cell 1 rfl
 have x4 := e22.cell 4 rfl
 have x5 := e22.cell 5 rfl
 have y0 := e32.cell 0 rfl
 have y1 := e32.cell 1 rfl
 go_wp2_with fail
 refine (H3.out w2 (hg.below hB2)).mono ?_
 rintro e w3 ⟨_, rfl, rfl, hb3⟩
 have hB3 := hB2.trans (hb3.mono hB2.size)
 have d2 : decide (0 ≤ z2) = true := decide_eq_true h2
 clear hb3 hB2 e22 e32 x0 x1 x4 x5 y0 y1
 rcases Int.lt_or_le z3 0 with h3 | h3
 ·have d3 : decide (0 ≤ z3) = false := decide_eq_false (by omega)
  go_wp2_with fail
  go_ret
  exact ⟨_, rfl, by rw [d1, d2, d3]; rfl, hB3⟩
 ·have d3 : decide (0 ≤ z3) = true := decide_eq_true h3
  go_wp2_with fail
  go_ret
  exact ⟨_, rfl, by rw [d1, d2, d3]; rfl, hB3⟩
def insideT (P : List PtQ) (T : List Tri) (p : PtQ) (i : Nat) : Bool :=
 match T[i]? with
 | some tr => insideB (ptI P tr.1) (ptI P tr.2.1) (ptI P tr.2.2) p
 | none => false
def locN (P : List PtQ) (T : List Tri) (p : PtQ) (n : Nat) : List Int := ((List.range n).filter (insideT P T p)).map fun i : Nat => (i : Int)
theorem locN_step (P : List PtQ) (T : List Tri) (p : PtQ) (n : Nat) : locN P T p (n + 1) = locN P T p n ++ (if insideT P T p n then [(n : Int)] else []) := by
 unfold locN
 rw [List.range_succ, List.filter_append, List.map_append]
 congr 1
 cases h : insideT P T p n <;> simp [h]
theorem locate_ok (w : World) (vp vt : Value) (P : List PtQ) (T : List Tri) (k : Nat) (hp : RdP w vp (strP P)) (ht : RdT w vt T) (hm : MeshOK P T k) (p : PtQ) (hpz : SzP 200 p) (hg : Good w) :
 Calls Tryz.prog 66 #[.agg #[vp, vt], .agg #[.string (RS p.1), .string (RS p.2)]] w (Ret (fun r w' => ∃ v, r = .tuple #[v, .int .i64 0] ∧ RdI .i64 w' v (locN P T p T.length)) w) := by
 have HER := Lib.hid (hpz.right (Nat.le_refl _))
 have hz1 := hpz.1.size (by omega)
 have hz2 := hpz.2.size (by omega)
 have HCK : Hid (∀ w', Below w.heap.size w w' → Good w' → Calls Tryz.prog 40 #[.agg #[vp, vt]] w' (Ret (fun r _ => r = .int .i64 0) w')) := fun w' hb hg' => check_any w' vp vt P T k (RdC.below hp hb) (RdC.below ht hb) hm hg'
 have HCO : Hid (∀ (i : Nat) (h : i < T.length) (w' : World), Below w.heap.size w w' → Calls Tryz.prog 43 #[.agg #[vp, vt], .int .i64 (i : Int)] w' (Ret (fun r _ => r = .agg #[.string (RS (ptI P T[i].1).1), .string (RS (ptI P T[i].1).2), .string (RS (ptI P T[i].2.1).1), .string (RS (ptI P T[i].2.1).2), .string (RS (ptI P T[i].2.2).1), .string (RS (ptI P T[i].2.2).2)]) w')) :=
  fun i h w' hb => mcorners_any w' vp vt P T k (RdC.below hp hb) (RdC.below ht hb) hm.toMeshIn i i rfl h T[i] rfl
 have HSZ : Hid (∀ (i : Nat) (h : i < T.length), SzP 200 (ptI P T[i].1) ∧ SzP 200 (ptI P T[i].2.1) ∧ SzP 200 (ptI P T[i].2.2)) := fun i h => by
  have hidx := hm.idx T[i] (List.getElem_mem h)
  have key : ∀ z ∈ idxOf T[i], SzP 200 (ptI P z) := fun z hz => by
   obtain ⟨h0, h1⟩ := hidx z hz
   obtain ⟨q, rfl⟩ : ∃ q : Nat, z = (q : Int) := ⟨z.toNat, by omega⟩
   rw [ptI_nat P q (by omega)]
   have := hm.sz _ (List.getElem_mem (show q < P.length by omega))
   exact ⟨this.1.mono hm.klim2, this.2.mono hm.klim2⟩
  exact ⟨key _ (by simp [idxOf]), key _ (by simp [idxOf]), key _ (by simp [idxOf])⟩
 have hpp := hp
 have htt := ht
 obtain ⟨pp, cp, rfl, -, -, -⟩ := hpp.open
 obtain ⟨pt, ct, rfl, -, -, -⟩ := htt.open
 have hn8 : T.length ≤ 800 := hm.tlen
 have HPZ := Lib.hid hpz
 obtain ⟨i0, hi, hzz0, hzz1, hzz2⟩ := info_parts info_i64
 generalize hpx : RS p.1 = px at *
 generalize hpy : RS p.2 = py at *
 have HPX := Lib.hid hpx
 have HPY := Lib.hid hpy
 rw [strP_length] at *
 clear hp ht hm hpp htt hpz hpx hpy
 go_enter Tryz.func66, Tryz.ntmps66
 go_wp2_with fail
 obtain ⟨W, hW⟩ : ∃ W, W = (w.alloc (.cells #[.slice pp P.length cp, .slice pt T.length ct] 38)).alloc (.cells #[.string px, .string py] 33) := ⟨_, rfl⟩
 have hB : Below w.heap.size w W := by rw [hW]; exact zal2 _ _ _
 have e3 : BoxN W (w.heap.size + 1) 33 [.string px, .string py] := by rw [hW]; exact BoxN.new _ _ _ _ (by simp)
 have e2 : BoxN W w.heap.size 38 [.slice pp P.length cp, .slice pt T.length ct] := by
  rw [hW]
  have h1 := (BoxN.new w #[.slice pp P.length cp, .slice pt T.length ct] 38 _ rfl)
  exact h1.below (zal _ _) h1.lt
 rw [← hW]
 clear hW
 refine (HCK.out W hB (hg.below hB)).mono ?_
 rintro e w1 ⟨_, rfl, rfl, hb1⟩
 have hB1 := hB.trans (hb1.mono hB.size)
 have e21 := e2.below hb1 e2.lt
 have e31 := e3.below hb1 e3.lt
 have y0 := e31.cell 0 rfl
 have y1 := e31.cell 1 rfl
 clear hb1 hB e2 e3
 go_wp2_with fail
 refine (checkPoint_any px py (by omega) (by omega) w1 (hg.below hB1)).mono ?_
 rw [HER.out]
 rintro e w2 ⟨_, rfl, rfl, hb2⟩
 have hB2 := hB1.trans (hb2.mono hB1.size)
 have e22 := e21.below hb2 e21.lt
 have e32 := e31.below hb2 e31.lt
 have hz3 := e32.lt
 have x1 := e22.cell 1 rfl
 clear hb2 hB1 e21 e31 y0 y1
 go_wp2_with fail
 go_loopw [7, 20] (fun t7 t20 wr => ∃ (i m : Nat), t20 = .int .i64 i ∧ i ≤ T.length ∧ m ≤ i ∧ Hid ((locN P T p i).length = m) ∧ wr.ownsRow w2.heap.size 3 1 t7 m ((locN P T p i).map fun x => Value.int .i64 x) ∧ Below w2.heap.size w2 wr) (fun _ t20 _ => T.length - (RowKit.intOf t20).toNat)
 case atStart => exact ⟨0, 0, rfl, Nat.zero_le _, Nat.le_refl _, rfl, World.ownsRow_nil _ _ _ _, Below.refl _ _⟩
 case round =>
  obtain ⟨i, m, rfl, hin, hmi, HL, hown, hbr⟩ := hrel
  obtain ⟨p7, c7, rfl⟩ := ownsRow_shape hown
  have hzr := hbr.size
  rcases Nat.lt_or_ge i T.length with h | h
  ·have HST := Lib.hid (locN_step P T p i)
   have HIT : Hid (insideT P T p i = insideB (ptI P T[i].1) (ptI P T[i].2.1) (ptI P T[i].2.2) p) := by unfold Hid insideT; rw [List.getElem?_eq_getElem h]
   obtain ⟨s1, s2, s3⟩ := HSZ.out i h
   have hbW : Below w.heap.size w wr := hB2.trans (hbr.mono hB2.size)
   have hbd : Below w.heap.size w wr.drew := hbW.trans ((below_drewN wr 1).mono hbW.size)
   have HC : Hid (∀ w', Below w.heap.size w w' → _) := fun w' hb => HCO.out i h w' hb
   have HI : Hid (∀ w', Good w' → _) := fun w' hg' => inside_any (ptI P T[i].1) (ptI P T[i].2.1) (ptI P T[i].2.2) p 200 (by omega) (by omega) s1 s2 s3 HPZ.out w' hg'
   rw [HPX.out, HPY.out] at HI
   generalize insideB (ptI P T[i].1) (ptI P T[i].2.1) (ptI P T[i].2.2) p = bi at *
   generalize RS (ptI P T[i].1).1 = q1 at *
   generalize RS (ptI P T[i].1).2 = q2 at *
   generalize RS (ptI P T[i].2.1).1 = q3 at *
   generalize RS (ptI P T[i].2.1).2 = q4 at *
   generalize RS (ptI P T[i].2.2).1 = q5 at *
   generalize RS (ptI P T[i].2.2).2 = q6 at *
   have a0 := (hbr.cell (p := ⟨w.heap.size, 0, none⟩) e22.lt).trans (e22.cell 0 rfl)
   have a1 := (hbr.cell (p := ⟨w.heap.size, 1, none⟩) e22.lt).trans (e22.cell 1 rfl)
   have b0 := (hbr.cell (p := ⟨w.heap.size + 1, 0, none⟩) e32.lt).trans (e32.cell 0 rfl)
   have b1 := (hbr.cell (p := ⟨w.heap.size + 1, 1, none⟩) e32.lt).trans (e32.cell 1 rfl)
   have hz2' := e22.lt
   have hiT : (i : Int) < (T.length : Int) := by omega
   have hgd : Good wr.drew := (hg.below hbW).drewN 1
   clear s1 s2 s3 x1
   go_upto_region 10 with fail
   go_region_held3 (fun w' => w'.cell? ⟨w.heap.size, 0, none⟩ = some (.slice pp P.length cp) ∧ w'.cell? ⟨w.heap.size, 1, none⟩ = some (.slice pt T.length ct) ∧ w'.cell? ⟨w.heap.size + 1, 0, none⟩ = some (.string px) ∧ w'.cell? ⟨w.heap.size + 1, 1, none⟩ = some (.string py))
    (first | exact ⟨a0, a1, b0, b1⟩ | exact ⟨p_1_0, p_1_1, p_1_2, p_1_3⟩ | exact ⟨p_2_0, p_2_1, p_2_2, p_2_3⟩)
    (first
    | (go_at_call 119; refine (HI.out _ pg1).mono ?_; rintro e pw2 ⟨_, rfl, rfl, pb2⟩
       have p_2_0 := zct pb2 p_1_0
       have p_2_1 := zct pb2 p_1_1
       have p_2_2 := zct pb2 p_1_2
       have p_2_3 := zct pb2 p_1_3
       have ps2 : pw1.heap.size ≤ pw2.heap.size := pb2.size
       have pg2 : Good pw2 := pg1.below pb2)
    | (go_at_call 43; refine (HC.out _ hbd).mono ?_; rintro e pw1 ⟨_, rfl, rfl, pb1⟩
       have p_1_0 := zct pb1 a0
       have p_1_1 := zct pb1 a1
       have p_1_2 := zct pb1 b0
       have p_1_3 := zct pb1 b1
       have ps1 : wr.heap.size ≤ pw1.heap.size := pb1.size
       have pg1 : Good pw1 := hgd.below pb1))
   have pB : Below wr.heap.size wr pw2 := zbt (zbt (below_drewN wr 1) pb1) pb2
   have hown2 := World.ownsRow.belowAll hown pB
   have hbr2 : Below w2.heap.size w2 pw2 := hbr.trans (pB.mono hzr)
   have hz4 := hbr2.size
   have hwo := pB.size
   clear pB pb1 pb2 ps1 ps2 pg1 pg2 p_1_0 p_1_1 p_1_2 p_1_3 p_2_0 p_2_1 p_2_2 p_2_3 a0 a1 b0 b1 hown hbr hgd hbd hbW
   cases bi
   ·have HLN : Hid ((locN P T p (i + 1)).length = m) := by unfold Hid; rw [HST.out, HIT.out]; simpa using HL.out
    have HLE : Hid (locN P T p (i + 1) = locN P T p i) := by unfold Hid; rw [HST.out, HIT.out]; simp
    go_wp2_with fail
    go_roundw
    case rel => exact ⟨i + 1, m, by go_num, h, by omega, HLN, by rw [HLE.out]; exact hown2, hbr2⟩
    case measure => simp [RowKit.intOf]; omega
   ·have HLN : Hid ((locN P T p (i + 1)).length = m + 1) := by unfold Hid; rw [HST.out, HIT.out]; simpa using HL.out
    have HLE : Hid (locN P T p (i + 1) = locN P T p i ++ [(i : Int)]) := by unfold Hid; rw [HST.out, HIT.out]; simp
    go_wp2_with (at_builtin; refine wpList_append_own _ rfl _ _ 126 rfl w2.heap.size 3 i0 (.int .i64 0) 1 8 Tryz.underlying126 hi hzz0 hzz1 hzz2 rfl (by decide) _ _ _ rfl (hown2.alloc _) ⟨pw2.heap.size, 0, none⟩ 1 1 [.int .i64 i] rfl rfl (cell_one_i64 _ _ _) (one_cell_i64 _) (by unfold maxLen; omega) (by omega) (by simp; omega) ?_
                 intro v3 w3 hown3 hgrow3 _
                 have hzw3 := hgrow3.size
                 have hbr3 : Below w2.heap.size w2 w3 := (hbr2.alloc hz4 _).grown hgrow3 (by simp; omega) (fun j hj => by have := (hown2.lt j hj).1; omega)
                 clear hgrow3)
    go_roundw
    case rel => exact ⟨i + 1, m + 1, by go_num, h, by omega, HLN, by rw [HLE.out, List.map_append]; exact hown3, hbr3⟩
    case measure => simp [RowKit.intOf]; omega
  ·obtain rfl : i = T.length := by omega
   have hbW : Below w.heap.size w wr := hB2.trans (hbr.mono hB2.size)
   have hrd : RdI .i64 wr (.slice p7 m c7) (locN P T p T.length) := by
    have h1 : RdC 1 wr (.slice p7 m c7) m ((locN P T p T.length).map fun x => Value.int .i64 x) := RdC.of_owns hown
    unfold RdI
    rw [HL.out]
    exact h1
   go_wp2_with fail
   go_ret2
   exact ⟨_, rfl, ⟨_, rfl, hrd⟩, hbW⟩
def onQ (P : List PtQ) (F : List Rat) (tr : Tri) (p : PtQ) : Rat := hI F tr.1 + (slopeT P F tr).1 * (p.1 - (ptI P tr.1).1) + (slopeT P F tr).2 * (p.2 - (ptI P tr.1).2)
theorem on_any (w : World) (vp vt vf : Value) (P : List PtQ) (T : List Tri) (k : Nat) (F : List Rat) (h : FieldIn w vp vt vf P T k F) (t : Nat) (tz : Int) (htz : tz = (t : Int)) (htl : t < T.length) (tr : Tri) (htr : tr = T[t]) (p : PtQ) (m : Nat) (hm0 : 0 < m) (hm : m ≤ 1000) (hs : SzP m (slopeT P F tr)) (hp : SzP m p) (hkm : k ≤ m) (hg : Good w) :
 Calls Tryz.prog 36 #[.agg #[vp, vt], vf, .int .i64 tz, .agg #[.string (RS p.1), .string (RS p.2)]] w (Ret (fun r _ => r = .string (RS (onQ P F tr p))) w) := by
 have hmem : tr ∈ T := by rw [htr]; exact List.getElem_mem htl
 obtain ⟨g0, g1⟩ := h.m.idx tr hmem tr.1 (by simp [idxOf])
 obtain ⟨q, hq⟩ : ∃ q : Nat, tr.1 = (q : Int) := ⟨tr.1.toNat, by omega⟩
 have hfl := h.fl
 have hqF : q < F.length := by omega
 have hqP : q < P.length := by omega
 have HH := Lib.hid h
 have HSL : Hid (∀ (w : World), FieldIn w vp vt vf P T k F → Good w → Calls Tryz.prog 73 #[.agg #[vp, vt], vf, .int .i64 tz] w (Ret (fun r _ => r = .agg #[.string (RS (slopeT P F tr).1), .string (RS (slopeT P F tr).2)]) w)) := fun w h hg =>
  slope_any w _ _ _ P T k F h.p h.t h.m.toMeshIn h.m.klim2 h.f h.fs h.fl t tz htz htl tr htr (h.m.turns tr hmem) hg
 obtain ⟨bt, ot, ct, rfl, hbt, e0, _, _⟩ := h.tri t htl
 obtain ⟨bf, of, cf, rfl, hbf, ef⟩ := h.hgt q hqF
 have hpp := h.p
 obtain ⟨pp, cp, rfl, _, _, hpr⟩ := hpp.open
 obtain ⟨bp, op, rfl, hbp, hpc⟩ := hpr (by intro e; have h := strP_length P; rw [e] at h; simp at h; omega)
 obtain ⟨ex, ey⟩ := hpc q (by rw [strP_length]; exact hqP)
 rw [strP_get P q hqP] at ex ey
 dsimp only at ex ey
 rw [← htr, hq] at e0
 have zo := h.m.sz _ (List.getElem_mem hqP)
 have zf := h.fs _ (List.getElem_mem hqF)
 unfold onQ
 rw [hq, hI_nat F q hqF, ptI_nat P q hqP]
 rw [hI_nat F q hqF] at ef
 rw [strP_length] at *
 generalize slopeT P F tr = S at *
 generalize P[q] = o at *
 generalize F[q] = f at *
 have d1 : Sz (2 * m + 1) (p.1 - o.1) := (hp.1.sub (zo.1.mono hkm)).mono (by omega)
 have d2 : Sz (2 * m + 1) (p.2 - o.2) := (hp.2.sub (zo.2.mono hkm)).mono (by omega)
 have m1 : Sz (3 * m + 1) (S.1 * (p.1 - o.1)) := (hs.1.mul d1).mono (by omega)
 have m2 : Sz (3 * m + 1) (S.2 * (p.2 - o.2)) := (hs.2.mul d2).mono (by omega)
 have HD1 : Hid (∀ w, Good w → _) := fun w hg => ratSub_any p.1 o.1 m hm0 (by omega) hp.1 (zo.1.mono hkm) w hg
 have HD2 : Hid (∀ w, Good w → _) := fun w hg => ratSub_any p.2 o.2 m hm0 (by omega) hp.2 (zo.2.mono hkm) w hg
 have HM1 : Hid (∀ w, Good w → _) := fun w hg => ratMul_any S.1 (p.1 - o.1) (2 * m + 1) (by omega) (by omega) (hs.1.mono (by omega)) d1 w hg
 have HM2 : Hid (∀ w, Good w → _) := fun w hg => ratMul_any S.2 (p.2 - o.2) (2 * m + 1) (by omega) (by omega) (hs.2.mono (by omega)) d2 w hg
 have HSUM : Hid (∀ (v : Value) (w : World), RdQ w v [f, S.1 * (p.1 - o.1), S.2 * (p.2 - o.2)] → Good w → _) := fun v w hr hg => ratSum_any [f, S.1 * (p.1 - o.1), S.2 * (p.2 - o.2)] (3 * m + 1) (by omega) (by simp; omega) (by
  intro q hq
  simp only [List.mem_cons, List.not_mem_nil, or_false] at hq
  rcases hq with rfl | rfl | rfl
  ·exact zf.mono (by omega)
  ·exact m1
  ·exact m2) v w hr hg
 have hfold : [f, S.1 * (p.1 - o.1), S.2 * (p.2 - o.2)].foldl (·+ ·) 0 = f + S.1 * (p.1 - o.1) + S.2 * (p.2 - o.2) := by
  simp only [List.foldl_cons, List.foldl_nil]
  grind
 rw [hfold] at HSUM
 generalize f + S.1 * (p.1 - o.1) + S.2 * (p.2 - o.2) = res at *
 generalize S.1 * (p.1 - o.1) = x1 at *
 generalize S.2 * (p.2 - o.2) = x2 at *
 generalize p.1 - o.1 = y1 at *
 generalize p.2 - o.2 = y2 at *
 have ht2 : (t : Int) < (T.length : Int) := by omega
 have hq1 : (q : Int) < (P.length : Int) := by omega
 have hq2 : (q : Int) < (F.length : Int) := by omega
 have i0 := idx_T0
 subst htz
 clear h htr hmem hpp hpr hpc hs hp zo zf d1 d2 m1 m2 hfold g0 g1 hq hqF hqP hfl
 go_enter Tryz.func36, Tryz.ntmps36
 go_wp2_with fail
 obtain ⟨W, hW⟩ : ∃ W, W = (w.alloc (.cells #[.slice (some ⟨bp, op, none⟩) P.length cp, .slice (some ⟨bt, ot, none⟩) T.length ct] 38)).alloc (.cells #[.string (RS p.1), .string (RS p.2)] 33) := ⟨_, rfl⟩
 have hB : Below w.heap.size w W := by rw [hW]; exact zal2 _ _ _
 have b7 : BoxN W (w.heap.size + 1) 33 [.string (RS p.1), .string (RS p.2)] := by rw [hW]; exact BoxN.new _ _ _ _ (by simp)
 have b4 : BoxN W w.heap.size 38 [.slice (some ⟨bp, op, none⟩) P.length cp, .slice (some ⟨bt, ot, none⟩) T.length ct] := by
  rw [hW]
  have h1 := (BoxN.new w #[.slice (some ⟨bp, op, none⟩) P.length cp, .slice (some ⟨bt, ot, none⟩) T.length ct] 38 _ rfl)
  exact h1.below (zal _ _) h1.lt
 rw [← hW]
 clear hW
 refine (HSL.out W (HH.out.below hB) (hg.below hB)).mono ?_
 rintro e w1 ⟨_, rfl, rfl, hb1⟩
 have hB1 := hB.trans (hb1.mono hB.size)
 have b71 := b7.below hb1 b7.lt
 have b41 := b4.below hb1 b4.lt
 clear hb1 hB b7 b4
 go_upto_region 2 with fail
 obtain ⟨W2, hW2⟩ : ∃ W, W = w1.alloc (.cells #[.string (RS S.1), .string (RS S.2)] 33) := ⟨_, rfl⟩
 have hb2 : Below w1.heap.size w1 W2 := by rw [hW2]; exact zal _ _
 have b9 : BoxN W2 w1.heap.size 33 [.string (RS S.1), .string (RS S.2)] := by rw [hW2]; exact BoxN.new _ _ _ _ rfl
 rw [← hW2]
 clear hW2
 have hB2 := hB1.trans (hb2.mono hB1.size)
 have b72 := b71.below hb2 b71.lt
 have b42 := b41.below hb2 b41.lt
 clear hb2 hB1 b71 b41
 have x0 := b42.cell 0 rfl
 have x1' := b42.cell 1 rfl
 have k0 := zcq hB2 hbt e0
 have k1 := zcq hB2 hbp ex
 have k2 := zcq hB2 hbp ey
 go_upto_region 4 with fail
 obtain ⟨W3, hW3⟩ : ∃ W, W = W2.alloc (.cells #[.string (RS o.1), .string (RS o.2)] 33) := ⟨_, rfl⟩
 have hb3 : Below W2.heap.size W2 W3 := by rw [hW3]; exact zal _ _
 have b11 : BoxN W3 W2.heap.size 33 [.string (RS o.1), .string (RS o.2)] := by rw [hW3]; exact BoxN.new _ _ _ _ rfl
 rw [← hW3]
 clear hW3
 have hB3 := hB2.trans (hb3.mono hB2.size)
 have b73 := b72.below hb3 b72.lt
 have b93 := b9.below hb3 b9.lt
 clear hb3 hB2 b72 b9 b42 x0 x1' k0 k1 k2 e0 ex ey
 have kf := zcq hB3 hbf ef
 have u0 := b93.cell 0 rfl
 have u1 := b93.cell 1 rfl
 have v0 := b73.cell 0 rfl
 have v1 := b73.cell 1 rfl
 have w0 := b11.cell 0 rfl
 have w1' := b11.cell 1 rfl
 have hz1 := b93.lt
 have hz2 := b73.lt
 have hz3 := b11.lt
 have hz4 := hB3.size
 have hgd : Good W3.drew := (hg.below hB3).drewN 1
 clear ef
 go_region_held3 (fun w' => w'.cell? ⟨bf, of + q, none⟩ = some (.string (RS f)) ∧ w'.cell? ⟨w1.heap.size, 0, none⟩ = some (.string (RS S.1)) ∧ w'.cell? ⟨w.heap.size + 1, 0, none⟩ = some (.string (RS p.1)) ∧ w'.cell? ⟨W2.heap.size, 0, none⟩ = some (.string (RS o.1)) ∧ w'.cell? ⟨w1.heap.size, 1, none⟩ = some (.string (RS S.2)) ∧ w'.cell? ⟨w.heap.size + 1, 1, none⟩ = some (.string (RS p.2)) ∧ w'.cell? ⟨W2.heap.size, 1, none⟩ = some (.string (RS o.2)))
  (first | with_reducible exact ⟨kf, u0, v0, w0, u1, v1, w1'⟩ | with_reducible exact ⟨r_1_0, r_1_1, r_1_2, r_1_3, r_1_4, r_1_5, r_1_6⟩ | with_reducible exact ⟨r_2_0, r_2_1, r_2_2, r_2_3, r_2_4, r_2_5, r_2_6⟩ | with_reducible exact ⟨r_3_0, r_3_1, r_3_2, r_3_3, r_3_4, r_3_5, r_3_6⟩ | with_reducible exact ⟨r_4_0, r_4_1, r_4_2, r_4_3, r_4_4, r_4_5, r_4_6⟩ | with_reducible exact ⟨(cell_alloc_l _ r_4_0), (cell_alloc_l _ r_4_1), (cell_alloc_l _ r_4_2), (cell_alloc_l _ r_4_3), (cell_alloc_l _ r_4_4), (cell_alloc_l _ r_4_5), (cell_alloc_l _ r_4_6)⟩ | with_reducible exact ⟨r_5_0, r_5_1, r_5_2, r_5_3, r_5_4, r_5_5, r_5_6⟩ | exact ⟨kf, u0, v0, w0, u1, v1, w1'⟩ | exact ⟨r_1_0, r_1_1, r_1_2, r_1_3, r_1_4, r_1_5, r_1_6⟩ | exact ⟨r_2_0, r_2_1, r_2_2, r_2_3, r_2_4, r_2_5, r_2_6⟩ | exact ⟨r_3_0, r_3_1, r_3_2, r_3_3, r_3_4, r_3_5, r_3_6⟩ | exact ⟨r_4_0, r_4_1, r_4_2, r_4_3, r_4_4, r_4_5, r_4_6⟩ | exact ⟨(cell_alloc_l _ r_4_0), (cell_alloc_l _ r_4_1), (cell_alloc_l _ r_4_2), (cell_alloc_l _ r_4_3), (cell_alloc_l _ r_4_4), (cell_alloc_l _ r_4_5), (cell_alloc_l _ r_4_6)⟩ | exact ⟨r_5_0, r_5_1, r_5_2, r_5_3, r_5_4, r_5_5, r_5_6⟩)
  (first
  | (go_at_call 80; refine (HSUM.out _ _ (RdQ.fresh rw4 [f, x1, x2] _ _ rfl (by simp) 3 rfl _ rfl) (rg4.alloc _)).mono ?_; rintro e rw5 ⟨_, rfl, rfl, rb5_⟩
     have rb5 : Below rw4.heap.size rw4 rw5 := ((Below.refl _ _).alloc (Nat.le_refl _) _).trans (rb5_.mono (by simp))
     have r_5_0 := zct rb5 r_4_0
     have r_5_1 := zct rb5 r_4_1
     have r_5_2 := zct rb5 r_4_2
     have r_5_3 := zct rb5 r_4_3
     have r_5_4 := zct rb5 r_4_4
     have r_5_5 := zct rb5 r_4_5
     have r_5_6 := zct rb5 r_4_6
     have rs5 : rw4.heap.size ≤ rw5.heap.size := rb5.size
     have rg5 : Good rw5 := rg4.below rb5)
  | (go_at_call 79; refine (HM2.out _ rg3).mono ?_; rintro e rw4 ⟨_, rfl, rfl, rb4⟩
     have r_4_0 := zct rb4 r_3_0
     have r_4_1 := zct rb4 r_3_1
     have r_4_2 := zct rb4 r_3_2
     have r_4_3 := zct rb4 r_3_3
     have r_4_4 := zct rb4 r_3_4
     have r_4_5 := zct rb4 r_3_5
     have r_4_6 := zct rb4 r_3_6
     have rs4 : rw3.heap.size ≤ rw4.heap.size := rb4.size
     have rg4 : Good rw4 := rg3.below rb4)
  | (go_at_call 53; refine (HD2.out _ rg2).mono ?_; rintro e rw3 ⟨_, rfl, rfl, rb3⟩
     have r_3_0 := zct rb3 r_2_0
     have r_3_1 := zct rb3 r_2_1
     have r_3_2 := zct rb3 r_2_2
     have r_3_3 := zct rb3 r_2_3
     have r_3_4 := zct rb3 r_2_4
     have r_3_5 := zct rb3 r_2_5
     have r_3_6 := zct rb3 r_2_6
     have rs3 : rw2.heap.size ≤ rw3.heap.size := rb3.size
     have rg3 : Good rw3 := rg2.below rb3)
  | (go_at_call 79; refine (HM1.out _ rg1).mono ?_; rintro e rw2 ⟨_, rfl, rfl, rb2⟩
     have r_2_0 := zct rb2 r_1_0
     have r_2_1 := zct rb2 r_1_1
     have r_2_2 := zct rb2 r_1_2
     have r_2_3 := zct rb2 r_1_3
     have r_2_4 := zct rb2 r_1_4
     have r_2_5 := zct rb2 r_1_5
     have r_2_6 := zct rb2 r_1_6
     have rs2 : rw1.heap.size ≤ rw2.heap.size := rb2.size
     have rg2 : Good rw2 := rg1.below rb2)
  | (go_at_call 53; refine (HD1.out _ hgd).mono ?_; rintro e rw1 ⟨_, rfl, rfl, rb1⟩
     have r_1_0 := zct rb1 kf
     have r_1_1 := zct rb1 u0
     have r_1_2 := zct rb1 v0
     have r_1_3 := zct rb1 w0
     have r_1_4 := zct rb1 u1
     have r_1_5 := zct rb1 v1
     have r_1_6 := zct rb1 w1'
     have rs1 : W3.heap.size ≤ rw1.heap.size := rb1.size
     have rg1 : Good rw1 := hgd.below rb1))
 have rB : Below W3.heap.size W3 rw5 := zbt (zbt (zbt (zbt (zbt (below_drewN W3 1) rb1) rb2) rb3) rb4) rb5
 go_wp2_with fail
 go_ret
 exact ⟨_, rfl, rfl, hB3.trans (rB.mono hB3.size)⟩
theorem fnumber_ok (q : Rat) (h : Sz 200 q) (w : World) (hg : Good w) :
 Calls Tryz.prog 50 #[.string (RS q)] w (Ret (fun r _ => r = .tuple #[.string (RS q), .int .i64 0]) w) := by
 have hs := h.size (by omega)
 have HE : Hid (errNum (rightQ (RS q).data.toList) = 0) := by unfold Hid; rw [RS_list, rightQ_RL h]; rfl
 clear h
 go_enter Tryz.func50, Tryz.ntmps50
 go_wp2_with fail
 refine (checkQ_any (RS q) (by omega) _ hg).mono ?_
 rintro e w1 ⟨_, rfl, rfl, hb1⟩
 rw [HE.out]
 go_wp2_with fail
 go_ret2
 exact ⟨_, rfl, rfl, hb1⟩
theorem value_out (w : World) (vp vt vf : Value) (P : List PtQ) (T : List Tri) (k : Nat) (F : List Rat) (h : FieldIn w vp vt vf P T k F) (p : PtQ) (hpz : SzP 200 p) (hl : locN P T p T.length = []) (hg : Good w) :
 Calls Tryz.prog 21 #[.agg #[vp, vt], vf, .agg #[.string (RS p.1), .string (RS p.2)]] w (Ret (fun r _ => r = .tuple #[.string ⟨#[]⟩, .int .i64 28]) w) := by
 have HH := Lib.hid h
 have HLO : Hid (∀ w', Below w.heap.size w w' → Good w' → _) := fun w' hb hg' => locate_ok w' vp vt P T k (h.below hb).p (h.below hb).t h.m p hpz hg'
 rw [hl] at HLO
 obtain ⟨pp, cp, pt, ct, pf, cf, rfl, rfl, rfl⟩ := h.open
 generalize RS p.1 = px at *
 generalize RS p.2 = py at *
 clear h hl
 go_enter Tryz.func21, Tryz.ntmps21
 go_wp2_with fail
 obtain ⟨W, hW⟩ : ∃ W, W = ((w.alloc (.cells #[.slice pp P.length cp, .slice pt T.length ct] 38)).alloc (.cells #[.string px, .string py] 33)).alloc (.cells #[.slice pf F.length cf] 41) := ⟨_, rfl⟩
 have hB : Below w.heap.size w W := by rw [hW]; exact (((Below.refl _ _).alloc (Nat.le_refl _) _).alloc (by simp) _).alloc (by simp; omega) _
 have bF : BoxN W (w.heap.size + 1 + 1) 41 [.slice pf F.length cf] := by rw [hW]; exact BoxN.new _ _ _ _ (by simp)
 have b5 : BoxN W (w.heap.size + 1) 33 [.string px, .string py] := by
  rw [hW]
  have h1 := (BoxN.new (w.alloc (.cells #[.slice pp P.length cp, .slice pt T.length ct] 38)) #[.string px, .string py] 33 (w.heap.size + 1) (by simp))
  exact h1.below (zal _ _) h1.lt
 have b3 : BoxN W w.heap.size 38 [.slice pp P.length cp, .slice pt T.length ct] := by
  rw [hW]
  have h1 := (BoxN.new w #[.slice pp P.length cp, .slice pt T.length ct] 38 _ rfl)
  exact h1.below (((Below.refl _ _).alloc (Nat.le_refl _) _).alloc (by simp) _) h1.lt
 rw [← hW]
 clear hW
 refine (checks_ok (HH.out.below hB) _ (bF.cell 0 rfl) (hg.below hB)).mono ?_
 rintro e w1 ⟨_, rfl, rfl, hb1⟩
 have hB1 := hB.trans (hb1.mono hB.size)
 have b51 := b5.below hb1 b5.lt
 have b31 := b3.below hb1 b3.lt
 have x0 := b31.cell 0 rfl
 have x1 := b31.cell 1 rfl
 have y0 := b51.cell 0 rfl
 have y1 := b51.cell 1 rfl
 clear hb1 hB b5 b3 bF
 go_wp2_with fail
 refine (HLO.out w1 hB1 (hg.below hB1)).mono ?_
 rintro e w2 ⟨_, rfl, ⟨vl, rfl, hrd⟩, hb2⟩
 have hB2 := hB1.trans (hb2.mono hB1.size)
 obtain ⟨pl, cl, rfl, -, -, -⟩ := hrd.open
 clear x0 x1 y0 y1 hrd
 go_wp2_with fail
 go_ret2
 exact ⟨_, rfl, rfl, hB2⟩
theorem value_in (w : World) (vp vt vf : Value) (P : List PtQ) (T : List Tri) (k : Nat) (F : List Rat) (h : FieldIn w vp vt vf P T k F) (p : PtQ) (hpz : SzP 200 p) (t : Nat) (l : List Int) (hl : locN P T p T.length = (t : Int) :: l) (htl : t < T.length) (hs : SzP 200 (slopeT P F T[t])) (hz : Sz 200 (onQ P F T[t] p)) (hg : Good w) :
 Calls Tryz.prog 21 #[.agg #[vp, vt], vf, .agg #[.string (RS p.1), .string (RS p.2)]] w (Ret (fun r _ => r = .tuple #[.string (RS (onQ P F T[t] p)), .int .i64 0]) w) := by
 have HH := Lib.hid h
 have HLO : Hid (∀ w', Below w.heap.size w w' → Good w' → _) := fun w' hb hg' => locate_ok w' vp vt P T k (h.below hb).p (h.below hb).t h.m p hpz hg'
 rw [hl] at HLO
 have HON : Hid (∀ w', Below w.heap.size w w' → Good w' → _) := fun w' hb hg' => on_any w' vp vt vf P T k F (h.below hb) t t rfl htl T[t] rfl p 200 (by omega) (by omega) hs hpz h.m.klim2 hg'
 have HNU : Hid (∀ w', Good w' → _) := fun w' hg' => fnumber_ok (onQ P F T[t] p) hz w' hg'
 obtain ⟨pp, cp, pt, ct, pf, cf, rfl, rfl, rfl⟩ := h.open
 generalize onQ P F T[t] p = res at *
 generalize RS res = ress at *
 generalize RS p.1 = px at *
 generalize RS p.2 = py at *
 clear h hl hs hz
 go_enter Tryz.func21, Tryz.ntmps21
 go_wp2_with fail
 obtain ⟨W, hW⟩ : ∃ W, W = ((w.alloc (.cells #[.slice pp P.length cp, .slice pt T.length ct] 38)).alloc (.cells #[.string px, .string py] 33)).alloc (.cells #[.slice pf F.length cf] 41) := ⟨_, rfl⟩
 have hB : Below w.heap.size w W := by rw [hW]; exact (((Below.refl _ _).alloc (Nat.le_refl _) _).alloc (by simp) _).alloc (by simp; omega) _
 have bF : BoxN W (w.heap.size + 1 + 1) 41 [.slice pf F.length cf] := by rw [hW]; exact BoxN.new _ _ _ _ (by simp)
 have b5 : BoxN W (w.heap.size + 1) 33 [.string px, .string py] := by
  rw [hW]
  have h1 := (BoxN.new (w.alloc (.cells #[.slice pp P.length cp, .slice pt T.length ct] 38)) #[.string px, .string py] 33 (w.heap.size + 1) (by simp))
  exact h1.below (zal _ _) h1.lt
 have b3 : BoxN W w.heap.size 38 [.slice pp P.length cp, .slice pt T.length ct] := by
  rw [hW]
  have h1 := (BoxN.new w #[.slice pp P.length cp, .slice pt T.length ct] 38 _ rfl)
  exact h1.below (((Below.refl _ _).alloc (Nat.le_refl _) _).alloc (by simp) _) h1.lt
 rw [← hW]
 clear hW
 refine (checks_ok (HH.out.below hB) _ (bF.cell 0 rfl) (hg.below hB)).mono ?_
 rintro e w1 ⟨_, rfl, rfl, hb1⟩
 have hB1 := hB.trans (hb1.mono hB.size)
 have b51 := b5.below hb1 b5.lt
 have b31 := b3.below hb1 b3.lt
 have x0 := b31.cell 0 rfl
 have x1 := b31.cell 1 rfl
 have y0 := b51.cell 0 rfl
 have y1 := b51.cell 1 rfl
 clear hb1 hB b5 b3 bF
 go_wp2_with fail
 refine (HLO.out w1 hB1 (hg.below hB1)).mono ?_
 rintro e w2 ⟨_, rfl, ⟨vl, rfl, hrd⟩, hb2⟩
 have hB2 := hB1.trans (hb2.mono hB1.size)
 have b52 := b51.below hb2 b51.lt
 have b32 := b31.below hb2 b31.lt
 obtain ⟨pl, cl, rfl, hlc, -, hlr⟩ := hrd.open
 obtain ⟨bl, ol, rfl, hbl, hlcell⟩ := hlr (by simp)
 have z0 := hlcell 0 (by simp)
 have hz5 := b52.lt
 have hz3 := b32.lt
 have hlen : 0 < ((t : Int) :: l).length := by simp
 have hlen2 : ¬ (((t : Int) :: l).length = 0) := by simp
 simp only [List.getElem_cons_zero, Nat.add_zero] at z0
 clear x0 x1 y0 y1 hrd hlr hlcell hb2 hB1 b51 b31
 have x0 := b32.cell 0 rfl
 have x1 := b32.cell 1 rfl
 have y0 := b52.cell 0 rfl
 have y1 := b52.cell 1 rfl
 generalize ((t : Int) :: l).length = nl at *
 have hgd : Good w2.drew := (hg.below hB2).drewN 1
 have hbd : Below w.heap.size w w2.drew := hB2.trans ((below_drewN w2 1).mono hB2.size)
 go_upto_region 9 with fail
 go_region_held3 (fun w' => w'.cell? ⟨w.heap.size, 0, none⟩ = some (.slice pp P.length cp) ∧ w'.cell? ⟨w.heap.size, 1, none⟩ = some (.slice pt T.length ct) ∧ w'.cell? ⟨bl, ol, none⟩ = some (.int .i64 t) ∧ w'.cell? ⟨w.heap.size + 1, 0, none⟩ = some (.string px) ∧ w'.cell? ⟨w.heap.size + 1, 1, none⟩ = some (.string py))
  (first | exact ⟨x0, x1, z0, y0, y1⟩ | exact ⟨r_1_0, r_1_1, r_1_2, r_1_3, r_1_4⟩ | exact ⟨r_2_0, r_2_1, r_2_2, r_2_3, r_2_4⟩)
  (first
  | (go_at_call 50; refine (HNU.out _ rg1).mono ?_; rintro e rw2 ⟨_, rfl, rfl, rb2⟩
     have r_2_0 := zct rb2 r_1_0
     have r_2_1 := zct rb2 r_1_1
     have r_2_2 := zct rb2 r_1_2
     have r_2_3 := zct rb2 r_1_3
     have r_2_4 := zct rb2 r_1_4
     have rs2 : rw1.heap.size ≤ rw2.heap.size := rb2.size
     have rg2 : Good rw2 := rg1.below rb2)
  | (go_at_call 36; refine (HON.out _ hbd hgd).mono ?_; rintro e rw1 ⟨_, rfl, rfl, rb1⟩
     have r_1_0 := zct rb1 x0
     have r_1_1 := zct rb1 x1
     have r_1_2 := zct rb1 z0
     have r_1_3 := zct rb1 y0
     have r_1_4 := zct rb1 y1
     have rs1 : w2.heap.size ≤ rw1.heap.size := rb1.size
     have rg1 : Good rw1 := hgd.below rb1))
 have rB : Below w2.heap.size w2 rw2 := zbt (zbt (below_drewN w2 1) rb1) rb2
 go_wp2_with fail
 go_ret2
 exact ⟨_, rfl, rfl, hB2.trans (rB.mono hB2.size)⟩
end Go.Proofs.YtegiemcnfbchoaaGreatDoor
