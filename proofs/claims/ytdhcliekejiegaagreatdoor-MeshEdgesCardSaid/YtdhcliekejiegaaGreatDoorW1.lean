/- The walks over mesh.corners, mesh.inside. -/
import Derived.Test.YtdhcliekejiegaaGreatDoorK3
import Derived.BigRegion
namespace Go.Proofs.YtdhcliekejiegaaGreatDoor
open Go.RowKit Go.Lib

theorem drew_cell (X : World) (p : Addr) : X.drew.cell? p = X.cell? p := rfl
theorem cell_far6 (X : World) (b : Nat) (v0 v1 v2 v3 v4 v5 : Value) (p : Addr) (h : b ≠ p.block) :
    ((((((X.setCell ⟨b, 0, none⟩ v0).setCell ⟨b, 1, none⟩ v1).setCell ⟨b, 2, none⟩ v2).setCell ⟨b, 3, none⟩ v3).setCell ⟨b, 4, none⟩ v4).setCell ⟨b, 5, none⟩ v5).drew.cell? p = X.cell? p := by
  rw [drew_cell, World.cell?_setCell_far _ _ _ _ h, World.cell?_setCell_far _ _ _ _ h, World.cell?_setCell_far _ _ _ _ h, World.cell?_setCell_far _ _ _ _ h, World.cell?_setCell_far _ _ _ _ h, World.cell?_setCell_far _ _ _ _ h]

set_option maxHeartbeats 4000000 in
set_option maxRecDepth 100000 in
theorem mcorners_any (w : World) (vp vt : Value) (P : List PtQ) (T : List Tri) (k : Nat) (hp : RdP w vp (strP P)) (ht : RdT w vt T) (hm : MeshIn P T k) (t : Nat) (tz : Int) (htz : tz = (t : Int)) (htl : t < T.length) (tr : Tri) (htr : tr = T[t]) :
    Calls Tryz.prog 48 #[.agg #[vp, vt], .int .i64 tz] w (Ret (fun r _ => r = .agg #[.string (RS (ptI P tr.1).1), .string (RS (ptI P tr.1).2), .string (RS (ptI P tr.2.1).1), .string (RS (ptI P tr.2.1).2), .string (RS (ptI P tr.2.2).1), .string (RS (ptI P tr.2.2).2)]) w) := by
  obtain ⟨pp, cp, rfl, hpc, hpm, hpr⟩ := hp.open
  obtain ⟨pt, ct, rfl, htc, htm, htr'⟩ := ht.open
  rw [strP_length] at hpc ⊢
  obtain ⟨bt, ot, rfl, hbt, htcell⟩ := htr' (List.ne_nil_of_length_pos (by omega))
  obtain ⟨e0, e1, e2⟩ := htcell t htl
  have hidx := hm.idx tr (by rw [htr]; exact List.getElem_mem htl)
  rw [← htr] at e0 e1 e2
  obtain ⟨q0z, q1z, q2z⟩ := tr
  dsimp only at hidx e0 e1 e2 ⊢
  obtain ⟨a00, a01⟩ := hidx q0z (by simp [idxOf])
  obtain ⟨a10, a11⟩ := hidx q1z (by simp [idxOf])
  obtain ⟨a20, a21⟩ := hidx q2z (by simp [idxOf])
  obtain ⟨q0, rfl⟩ : ∃ q : Nat, q0z = (q : Int) := ⟨q0z.toNat, by omega⟩
  obtain ⟨q1, rfl⟩ : ∃ q : Nat, q1z = (q : Int) := ⟨q1z.toNat, by omega⟩
  obtain ⟨q2, rfl⟩ : ∃ q : Nat, q2z = (q : Int) := ⟨q2z.toNat, by omega⟩
  have g0 : q0 < P.length := by omega
  have g1 : q1 < P.length := by omega
  have g2 : q2 < P.length := by omega
  obtain ⟨bp, op, rfl, hbp, hpc'⟩ := hpr (by intro e; have h := strP_length P; rw [e] at h; simp at h; omega)
  rw [ptI_nat P q0 g0, ptI_nat P q1 g1, ptI_nat P q2 g2]
  obtain ⟨k00, k01⟩ := hpc' q0 (by rw [strP_length]; exact g0)
  obtain ⟨k10, k11⟩ := hpc' q1 (by rw [strP_length]; exact g1)
  obtain ⟨k20, k21⟩ := hpc' q2 (by rw [strP_length]; exact g2)
  rw [strP_get P q0 g0] at k00 k01
  rw [strP_get P q1 g1] at k10 k11
  rw [strP_get P q2 g2] at k20 k21
  dsimp only at k00 k01 k10 k11 k20 k21
  have f0 : (q0 : Int) < (P.length : Int) := by omega
  have f1 : (q1 : Int) < (P.length : Int) := by omega
  have f2 : (q2 : Int) < (P.length : Int) := by omega
  have ft : (t : Int) < (T.length : Int) := by omega
  generalize RS P[q0].1 = x0s at *
  generalize RS P[q0].2 = y0s at *
  generalize RS P[q1].1 = x1s at *
  generalize RS P[q1].2 = y1s at *
  generalize RS P[q2].1 = x2s at *
  generalize RS P[q2].2 = y2s at *
  subst htz
  clear htr hidx hpr htr' htcell hpc' hp ht hm a00 a01 a10 a11 a20 a21 g0 g1 g2
  have i0 := idx_T0
  have i1 := idx_T1
  have i2 := idx_T2
  go_enter Tryz.func48, Tryz.ntmps48
  go_wp2_with fail
  obtain ⟨W, hW⟩ : ∃ W, W = ((w.alloc (.cells #[.slice (some ⟨bp, op, none⟩) P.length cp, .slice (some ⟨bt, ot, none⟩) T.length ct] 30)).alloc (.cells #[.string ⟨#[]⟩, .string ⟨#[]⟩, .string ⟨#[]⟩, .string ⟨#[]⟩, .string ⟨#[]⟩, .string ⟨#[]⟩] 109)).alloc (.cells #[.int .i64 q0, .int .i64 q1, .int .i64 q2] 51) := ⟨_, rfl⟩
  have hB : Below w.heap.size w W := by rw [hW]; exact (((Below.refl _ _).alloc (Nat.le_refl _) _).alloc (by simp) _).alloc (by simp; omega) _
  have b5 : BoxN W (w.heap.size + 1 + 1) 51 [.int .i64 q0, .int .i64 q1, .int .i64 q2] := by rw [hW]; exact BoxN.new _ _ _ _ (by simp)
  have b4 : BoxN W (w.heap.size + 1) 109 [.string ⟨#[]⟩, .string ⟨#[]⟩, .string ⟨#[]⟩, .string ⟨#[]⟩, .string ⟨#[]⟩, .string ⟨#[]⟩] := by
    rw [hW]
    have h1 := (BoxN.new (w.alloc (.cells #[.slice (some ⟨bp, op, none⟩) P.length cp, .slice (some ⟨bt, ot, none⟩) T.length ct] 30)) #[.string ⟨#[]⟩, .string ⟨#[]⟩, .string ⟨#[]⟩, .string ⟨#[]⟩, .string ⟨#[]⟩, .string ⟨#[]⟩] 109 (w.heap.size + 1) (by simp))
    exact h1.below ((Below.refl _ _).alloc (Nat.le_refl _) _) h1.lt
  have b2 : BoxN W w.heap.size 30 [.slice (some ⟨bp, op, none⟩) P.length cp, .slice (some ⟨bt, ot, none⟩) T.length ct] := by
    rw [hW]
    have h1 := (BoxN.new w #[.slice (some ⟨bp, op, none⟩) P.length cp, .slice (some ⟨bt, ot, none⟩) T.length ct] 30 _ rfl)
    exact h1.below (((Below.refl _ _).alloc (Nat.le_refl _) _).alloc (by simp) _) h1.lt
  rw [← hW]
  clear hW
  have x0 := b2.cell 0 rfl
  have t0 := b5.cell 0 rfl
  have t1 := b5.cell 1 rfl
  have t2 := b5.cell 2 rfl
  have c00 := (hB.cell (p := ⟨bp, op + q0 * 2, none⟩) hbp).trans k00
  have c01 := (hB.cell (p := ⟨bp, op + q0 * 2 + 1, none⟩) hbp).trans k01
  have c10 := (hB.cell (p := ⟨bp, op + q1 * 2, none⟩) hbp).trans k10
  have c11 := (hB.cell (p := ⟨bp, op + q1 * 2 + 1, none⟩) hbp).trans k11
  have c20 := (hB.cell (p := ⟨bp, op + q2 * 2, none⟩) hbp).trans k20
  have c21 := (hB.cell (p := ⟨bp, op + q2 * 2 + 1, none⟩) hbp).trans k21
  have r0 := b4.cell 0 rfl
  have r1 := b4.cell 1 rfl
  have r2 := b4.cell 2 rfl
  have r3 := b4.cell 3 rfl
  have r4 := b4.cell 4 rfl
  have r5 := b4.cell 5 rfl
  have r0f := b4.frozen 0
  have r1f := b4.frozen 1
  have r2f := b4.frozen 2
  have r3f := b4.frozen 3
  have r4f := b4.frozen 4
  have r5f := b4.frozen 5
  have hz := b5.lt
  have n2 : w.heap.size + 1 ≠ w.heap.size := by omega
  have n5 : w.heap.size + 1 ≠ w.heap.size + 1 + 1 := by omega
  have np : w.heap.size + 1 ≠ bp := by omega
  have HS : Hid (W.drew.cell? ⟨w.heap.size, 0, none⟩ = some (.slice (some ⟨bp, op, none⟩) P.length cp) ∧ W.drew.cell? ⟨w.heap.size + 1 + 1, 0, none⟩ = some (.int .i64 q0) ∧ W.drew.cell? ⟨w.heap.size + 1 + 1, 1, none⟩ = some (.int .i64 q1) ∧ W.drew.cell? ⟨w.heap.size + 1 + 1, 2, none⟩ = some (.int .i64 q2) ∧ W.drew.cell? ⟨bp, op + q0 * 2, none⟩ = some (.string x0s) ∧ W.drew.cell? ⟨bp, op + q0 * 2 + 1, none⟩ = some (.string y0s) ∧ W.drew.cell? ⟨bp, op + q1 * 2, none⟩ = some (.string x1s) ∧ W.drew.cell? ⟨bp, op + q1 * 2 + 1, none⟩ = some (.string y1s) ∧ W.drew.cell? ⟨bp, op + q2 * 2, none⟩ = some (.string x2s) ∧ W.drew.cell? ⟨bp, op + q2 * 2 + 1, none⟩ = some (.string y2s)) := ⟨x0, t0, t1, t2, c00, c01, c10, c11, c20, c21⟩
  have HT : Hid (W.cell? ⟨w.heap.size, 0, none⟩ = some (.slice (some ⟨bp, op, none⟩) P.length cp) ∧ W.cell? ⟨w.heap.size + 1 + 1, 0, none⟩ = some (.int .i64 q0) ∧ W.cell? ⟨w.heap.size + 1 + 1, 1, none⟩ = some (.int .i64 q1) ∧ W.cell? ⟨w.heap.size + 1 + 1, 2, none⟩ = some (.int .i64 q2) ∧ W.cell? ⟨bp, op + q0 * 2, none⟩ = some (.string x0s) ∧ W.cell? ⟨bp, op + q0 * 2 + 1, none⟩ = some (.string y0s) ∧ W.cell? ⟨bp, op + q1 * 2, none⟩ = some (.string x1s) ∧ W.cell? ⟨bp, op + q1 * 2 + 1, none⟩ = some (.string y1s) ∧ W.cell? ⟨bp, op + q2 * 2, none⟩ = some (.string x2s) ∧ W.cell? ⟨bp, op + q2 * 2 + 1, none⟩ = some (.string y2s)) := ⟨x0, t0, t1, t2, c00, c01, c10, c11, c20, c21⟩
  clear k00 k01 k10 k11 k20 k21 e0 e1 e2
  have hBW := Lib.hid hB
  clear x0 t0 t1 t2 c00 c01 c10 c11 c20 c21 b2 b5 hB
  go_region_held3 (fun w' => w'.cell? ⟨w.heap.size, 0, none⟩ = some (.slice (some ⟨bp, op, none⟩) P.length cp) ∧ w'.cell? ⟨w.heap.size + 1 + 1, 0, none⟩ = some (.int .i64 q0) ∧ w'.cell? ⟨w.heap.size + 1 + 1, 1, none⟩ = some (.int .i64 q1) ∧ w'.cell? ⟨w.heap.size + 1 + 1, 2, none⟩ = some (.int .i64 q2) ∧ w'.cell? ⟨bp, op + q0 * 2, none⟩ = some (.string x0s) ∧ w'.cell? ⟨bp, op + q0 * 2 + 1, none⟩ = some (.string y0s) ∧ w'.cell? ⟨bp, op + q1 * 2, none⟩ = some (.string x1s) ∧ w'.cell? ⟨bp, op + q1 * 2 + 1, none⟩ = some (.string y1s) ∧ w'.cell? ⟨bp, op + q2 * 2, none⟩ = some (.string x2s) ∧ w'.cell? ⟨bp, op + q2 * 2 + 1, none⟩ = some (.string y2s))
    (first | with_reducible exact HS.out | (obtain ⟨h1, h2, h3, h4, h5, h6, h7, h8, h9, h10⟩ := HT.out; with_reducible exact ⟨(cell_far6 _ _ _ _ _ _ _ _ _ n2).trans h1, (cell_far6 _ _ _ _ _ _ _ _ _ n5).trans h2, (cell_far6 _ _ _ _ _ _ _ _ _ n5).trans h3, (cell_far6 _ _ _ _ _ _ _ _ _ n5).trans h4, (cell_far6 _ _ _ _ _ _ _ _ _ np).trans h5, (cell_far6 _ _ _ _ _ _ _ _ _ np).trans h6, (cell_far6 _ _ _ _ _ _ _ _ _ np).trans h7, (cell_far6 _ _ _ _ _ _ _ _ _ np).trans h8, (cell_far6 _ _ _ _ _ _ _ _ _ np).trans h9, (cell_far6 _ _ _ _ _ _ _ _ _ np).trans h10⟩))
    (fail)
  all_goals
    go_wp2_with fail
    have BF := (((((b4.set 0 (.string x0s)).set 1 (.string y0s)).set 2 (.string x1s)).set 3 (.string y1s)).set 4 (.string x2s)).set 5 (.string y2s)
    have g0 := BF.cell 0 rfl
    have g1 := BF.cell 1 rfl
    have g2 := BF.cell 2 rfl
    have g3 := BF.cell 3 rfl
    have g4 := BF.cell 4 rfl
    have g5 := BF.cell 5 rfl
    have hBF : Below w.heap.size w (((((((W.setCell ⟨w.heap.size + 1, 0, none⟩ (.string x0s)).setCell ⟨w.heap.size + 1, 1, none⟩ (.string y0s)).setCell ⟨w.heap.size + 1, 2, none⟩ (.string x1s)).setCell ⟨w.heap.size + 1, 3, none⟩ (.string y1s)).setCell ⟨w.heap.size + 1, 4, none⟩ (.string x2s)).setCell ⟨w.heap.size + 1, 5, none⟩ (.string y2s)).drew) := by
      have h1 : w.heap.size ≤ w.heap.size + 1 := by omega
      have := (((((hBW.out.setCell (p := ⟨w.heap.size + 1, 0, none⟩) h1 (.string x0s)).setCell (p := ⟨w.heap.size + 1, 1, none⟩) h1 (.string y0s)).setCell (p := ⟨w.heap.size + 1, 2, none⟩) h1 (.string x1s)).setCell (p := ⟨w.heap.size + 1, 3, none⟩) h1 (.string y1s)).setCell (p := ⟨w.heap.size + 1, 4, none⟩) h1 (.string x2s)).setCell (p := ⟨w.heap.size + 1, 5, none⟩) h1 (.string y2s)
      exact this.trans ((below_drewN _ 1).mono this.size)
    exact bodyPost_ret (v := .agg #[.string x0s, .string y0s, .string x1s, .string y1s, .string x2s, .string y2s]) (by simp [results, Tryz.results48, go_sem, g0, g1, g2, g3, g4, g5]) rfl ⟨_, rfl, rfl, hBF⟩

end Go.Proofs.YtdhcliekejiegaaGreatDoor
