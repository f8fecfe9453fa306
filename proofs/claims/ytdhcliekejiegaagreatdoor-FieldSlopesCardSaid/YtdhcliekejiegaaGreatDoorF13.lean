import Derived.Test.YtdhcliekejiegaaGreatDoorF12a
import Derived.Test.YtdhcliekejiegaaGreatDoorU1
import Derived.Test.YtdhcliekejiegaaGreatDoorF3
import Derived.Laws.StructEq
import Derived.BigRegion
set_option maxHeartbeats 8000000
set_option maxRecDepth 100000
namespace Go.Proofs.YtdhcliekejiegaaGreatDoor
open Go.RowKit Go.Lib
theorem fslope_range (w : World) (vp vt vf : Value) (P : List PtQ) (T : List Tri) (k : Nat) (F : List Rat) (h : FieldIn w vp vt vf P T k F) (tz : Int) (htz : tz < 0 ∨ (T.length : Int) ≤ tz) (hg : Good w) :
 Calls Tryz.prog 24 #[.agg #[vp, vt], vf, .int .i64 tz] w (Ret (fun r _ => r = .tuple #[.agg #[.string ⟨#[]⟩, .string ⟨#[]⟩], .int .i64 3]) w) := by
 have HH := Lib.hid h
 obtain ⟨pp, cp, pt, ct, pf, cf, rfl, rfl, rfl⟩ := h.open
 clear h
 have hcs : (tz < 0) ∨ (¬ tz < 0 ∧ (T.length : Int) ≤ tz) := by omega
 clear htz
 go_enter Tryz.func24, Tryz.ntmps24
 go_wp2_with fail
 obtain ⟨W0, hW0⟩ : ∃ W0, W0 = ((w.alloc (.cells #[.slice pp P.length cp, .slice pt T.length ct] 30)).alloc (.cells #[.string ⟨#[]⟩, .string ⟨#[]⟩] 59)).alloc (.cells #[.slice pf F.length cf] 61) := ⟨_, rfl⟩
 have hB0 : Below w.heap.size w W0 := by rw [hW0]; exact (((Below.refl _ _).alloc (Nat.le_refl _) _).alloc (by simp) _).alloc (by simp; omega) _
 have b3 : BoxN W0 w.heap.size 30 [.slice pp P.length cp, .slice pt T.length ct] := by rw [hW0]; exact ((BoxN.new _ _ _ _ rfl).alloc _).alloc _
 have b6 : BoxN W0 (w.heap.size + 1) 59 [.string ⟨#[]⟩, .string ⟨#[]⟩] := by rw [hW0]; exact (BoxN.new _ _ _ _ (by simp)).alloc _
 have c0 : W0.cell? ⟨w.heap.size + 2, 0, none⟩ = some (.slice pf F.length cf) := by rw [hW0]; exact cell_slot _ _ _ _ (by simp)
 rw [← hW0]
 clear hW0
 refine (checks_ok (HH.out.below hB0) (w.heap.size + 2) c0 (hg.below hB0)).mono ?_
 rintro e w1 ⟨_, rfl, rfl, hb1⟩
 have hB1 := hB0.trans (hb1.mono hB0.size)
 have b31 := b3.below hb1 b3.lt
 have b61 := b6.below hb1 b6.lt
 have x0 := b31.cell 0 rfl
 have x1 := b31.cell 1 rfl
 have u0 := b61.cell 0 rfl
 have u1 := b61.cell 1 rfl
 have v0 := b61.frozen 0
 have v1 := b61.frozen 1
 clear b3 b6 c0 hb1 hB0
 have hBF := (hB1.setCell (p := ⟨w.heap.size + 1, 0, none⟩) (by show w.heap.size ≤ w.heap.size + 1; omega) (.string ⟨#[]⟩)).setCell (p := ⟨w.heap.size + 1, 1, none⟩) (by show w.heap.size ≤ w.heap.size + 1; omega) (.string ⟨#[]⟩)
 have BF := (b61.set 0 (.string ⟨#[]⟩)).set 1 (.string ⟨#[]⟩)
 have g0 := BF.cell 0 rfl
 have g1 := BF.cell 1 rfl
 rcases hcs with h1 | ⟨h1, h2⟩
 ·have h1d : decide (tz < 0) = true := decide_eq_true h1
  go_wp2_with fail
  exact bodyPost_ret (v := .tuple #[.agg #[.string ⟨#[]⟩, .string ⟨#[]⟩], .int .i64 3]) (by simp [results, Tryz.results24, go_sem, g0, g1]) rfl ⟨_, rfl, rfl, hBF⟩
 ·have h1d : decide (tz < 0) = false := decide_eq_false (by omega)
  have h2d : decide ((T.length : Int) ≤ tz) = true := decide_eq_true h2
  go_wp2_with fail
  exact bodyPost_ret (v := .tuple #[.agg #[.string ⟨#[]⟩, .string ⟨#[]⟩], .int .i64 3]) (by simp [results, Tryz.results24, go_sem, g0, g1]) rfl ⟨_, rfl, rfl, hBF⟩
theorem fnormal_range (w : World) (vp vt vf : Value) (P : List PtQ) (T : List Tri) (k : Nat) (F : List Rat) (h : FieldIn w vp vt vf P T k F) (tz : Int) (htz : tz < 0 ∨ (T.length : Int) ≤ tz) (hg : Good w) :
 Calls Tryz.prog 25 #[.agg #[vp, vt], vf, .int .i64 tz] w (Ret (fun r _ => r = .tuple #[.agg #[.string ⟨#[]⟩, .string ⟨#[]⟩, .string ⟨#[]⟩], .int .i64 3]) w) := by
 have HS : Hid (∀ w', Below w.heap.size w w' → Good w' → _) := fun w' hb hg' => fslope_range w' vp vt vf P T k F (h.below hb) tz htz hg'
 obtain ⟨pp, cp, pt, ct, pf, cf, rfl, rfl, rfl⟩ := h.open
 clear h htz
 go_enter Tryz.func25, Tryz.ntmps25
 go_wp2_with fail
 obtain ⟨W, hW⟩ : ∃ W, W = (w.alloc (.cells #[.slice pp P.length cp, .slice pt T.length ct] 30)).alloc (.cells #[.string ⟨#[]⟩, .string ⟨#[]⟩, .string ⟨#[]⟩] 71) := ⟨_, rfl⟩
 have hB : Below w.heap.size w W := by rw [hW]; exact zal2 _ _ _
 have b6 : BoxN W (w.heap.size + 1) 71 [.string ⟨#[]⟩, .string ⟨#[]⟩, .string ⟨#[]⟩] := by rw [hW]; exact BoxN.new _ _ _ _ (by simp)
 rw [← hW]
 clear hW
 refine (HS.out _ hB (hg.below hB)).mono ?_
 rintro e w1 ⟨_, rfl, rfl, hb1⟩
 have hB1 := hB.trans (hb1.mono hB.size)
 have b61 := b6.below hb1 b6.lt
 clear hb1 hB b6
 go_upto_region 2 with fail
 obtain ⟨W2, hW2⟩ : ∃ W, W = w1.alloc (.cells #[.string ⟨#[]⟩, .string ⟨#[]⟩] 59) := ⟨_, rfl⟩
 have hb2 : Below w1.heap.size w1 W2 := by rw [hW2]; exact zal _ _
 rw [← hW2]
 clear hW2
 have hB2 := hB1.trans (hb2.mono hB1.size)
 have b62 := b61.below hb2 b61.lt
 have u0 := b62.cell 0 rfl
 have u1 := b62.cell 1 rfl
 have u2 := b62.cell 2 rfl
 have v0 := b62.frozen 0
 have v1 := b62.frozen 1
 have v2 := b62.frozen 2
 have hle : w.heap.size ≤ w.heap.size + 1 := by omega
 have hBF := ((hB2.setCell (p := ⟨w.heap.size + 1, 0, none⟩) hle (.string ⟨#[]⟩)).setCell (p := ⟨w.heap.size + 1, 1, none⟩) hle (.string ⟨#[]⟩)).setCell (p := ⟨w.heap.size + 1, 2, none⟩) hle (.string ⟨#[]⟩)
 have BF := ((b62.set 0 (.string ⟨#[]⟩)).set 1 (.string ⟨#[]⟩)).set 2 (.string ⟨#[]⟩)
 have g0 := BF.cell 0 rfl
 have g1 := BF.cell 1 rfl
 have g2 := BF.cell 2 rfl
 go_wp2_with fail
 exact bodyPost_ret (v := .tuple #[.agg #[.string ⟨#[]⟩, .string ⟨#[]⟩, .string ⟨#[]⟩], .int .i64 3]) (by simp [results, Tryz.results25, go_sem, g0, g1, g2]) rfl ⟨_, rfl, rfl, hBF⟩
theorem eqP13 (x y : ByteArray) (w : World) : Sem.run Tryz.prog (Op.equalIn 10000 59 (.agg #[.string x, .string y]) (.agg #[.string x, .string y])) w = .ok true w := by
 have u3 := Tryz.underlying32
 have a3 := Tryz.isAgg32
 have z3 := Tryz.sizeOf32
 have hS : Tryz.prog.underlying 59 = some (.struct (Tryz.prog.fieldsOf 59)) := by kernel_rfl
 have hp : Tryz.prog.stoodInHeld 59 = false := by kernel_rfl
 rw [show (10000 : Nat) = 9999 + 1 from rfl, run_equalIn_agg w 9999 59 _ _ hS hp]
 simp only [Program.fieldsOf, Tryz.underlying59]
 go_simp
theorem eqV13 (x y z : ByteArray) (w : World) : Sem.run Tryz.prog (Op.equalIn 10000 71 (.agg #[.string x, .string y, .string z]) (.agg #[.string x, .string y, .string z])) w = .ok true w := by
 have u3 := Tryz.underlying32
 have a3 := Tryz.isAgg32
 have z3 := Tryz.sizeOf32
 have hS : Tryz.prog.underlying 71 = some (.struct (Tryz.prog.fieldsOf 71)) := by kernel_rfl
 have hp : Tryz.prog.stoodInHeld 71 = false := by kernel_rfl
 rw [show (10000 : Nat) = 9999 + 1 from rfl, run_equalIn_agg w 9999 71 _ _ hS hp]
 simp only [Program.fieldsOf, Tryz.underlying71]
 go_simp
theorem fieldSlopes_walk (w : World) (kz s0 s1 : Int) (half : Bool) (a0 a1 a2 a3 a4 a5 : Int) (ah : Bool) (b0 b1 b2 b3 b4 b5 : Int) (bh : Bool) (tz : Int) (P : List PtQ) (T : List Tri) (F : List Rat) (sx sy nx ny nz : ByteArray) (ge : Int)
 (HMK : Hid (∀ w, Good w → Calls Tryz.prog 9 #[.agg #[.int .u8 kz, .int .i8 s0, .int .i8 s1, .bool half]] w (Ret (fun r w' => ∃ vp vt, r = .agg #[vp, vt] ∧ RdP w' vp (strP P) ∧ RdT w' vt T) w)))
 (HMF : Hid (∀ w vp vt, RdP w vp (strP P) → RdT w vt T → Good w → Calls Tryz.prog 20 #[.agg #[vp, vt], .agg #[.int .i8 a0, .int .i8 a1, .int .i8 a2, .int .i8 a3, .int .i8 a4, .int .i8 a5, .bool ah]] w (Ret (fun r w' => FieldIn w' vp vt r P T 2 F) w)))
 (HSL : Hid (∀ w vp vt vf, FieldIn w vp vt vf P T 2 F → Good w → Calls Tryz.prog 24 #[.agg #[vp, vt], vf, .int .i64 tz] w (Ret (fun r _ => r = .tuple #[.agg #[.string sx, .string sy], .int .i64 ge]) w)))
 (HNR : Hid (∀ w vp vt vf, FieldIn w vp vt vf P T 2 F → Good w → Calls Tryz.prog 25 #[.agg #[vp, vt], vf, .int .i64 tz] w (Ret (fun r _ => r = .tuple #[.agg #[.string nx, .string ny, .string nz], .int .i64 ge]) w)))
 (HSZ : Hid (∀ tr ∈ T, SzP 200 (slopeT P F tr)))
 (HCS : Hid ((tz < 0 ∨ (T.length : Int) ≤ tz) ∧ sx = ⟨#[]⟩ ∧ sy = ⟨#[]⟩ ∧ nx = ⟨#[]⟩ ∧ ny = ⟨#[]⟩ ∧ nz = ⟨#[]⟩ ∧ ge = 3 ∨ ∃ (t : Nat) (tr : Tri), tz = (t : Int) ∧ T[t]? = some tr ∧ ge = 0 ∧ sx = RS (slopeT P F tr).1 ∧ sy = RS (slopeT P F tr).2 ∧ nx = RS (-(slopeT P F tr).1) ∧ ny = RS (-(slopeT P F tr).2) ∧ nz = ⟨#[49]⟩)) (hg : Good w) :
 Calls Tryz.prog 5 #[.agg #[.int .u8 kz, .int .i8 s0, .int .i8 s1, .bool half, .int .i8 a0, .int .i8 a1, .int .i8 a2, .int .i8 a3, .int .i8 a4, .int .i8 a5, .bool ah, .int .i8 b0, .int .i8 b1, .int .i8 b2, .int .i8 b3, .int .i8 b4, .int .i8 b5, .bool bh], .int .i64 tz] w (Ret (fun r _ => r = .bool true) w) := by
 have HQP := Lib.hid eqP13
 have HQV := Lib.hid eqV13
 go_enter Tryz.func5, Tryz.ntmps5
 go_wp2_with fail
 obtain ⟨W, hW⟩ : ∃ W, W = w.alloc (.cells #[.int .u8 kz, .int .i8 s0, .int .i8 s1, .bool half, .int .i8 a0, .int .i8 a1, .int .i8 a2, .int .i8 a3, .int .i8 a4, .int .i8 a5, .bool ah, .int .i8 b0, .int .i8 b1, .int .i8 b2, .int .i8 b3, .int .i8 b4, .int .i8 b5, .bool bh] 57) := ⟨_, rfl⟩
 have hB : Below w.heap.size w W := by rw [hW]; exact zal _ _
 have bx : BoxN W w.heap.size 57 [.int .u8 kz, .int .i8 s0, .int .i8 s1, .bool half, .int .i8 a0, .int .i8 a1, .int .i8 a2, .int .i8 a3, .int .i8 a4, .int .i8 a5, .bool ah, .int .i8 b0, .int .i8 b1, .int .i8 b2, .int .i8 b3, .int .i8 b4, .int .i8 b5, .bool bh] := by rw [hW]; exact BoxN.new _ _ _ _ rfl
 rw [← hW]
 clear hW
 refine (known13_any W (hg.below hB)).mono ?_
 rintro e o1 ⟨_, rfl, rfl, hb1⟩
 have hB1 := hB.trans (hb1.mono hB.size)
 have bx1 := bx.below hb1 bx.lt
 clear hb1 hB bx
 have k0 := bx1.cell 0 rfl
 have k1 := bx1.cell 1 rfl
 have k2 := bx1.cell 2 rfl
 have k3 := bx1.cell 3 rfl
 go_wp2_with fail
 refine (HMK.out o1 (hg.below hB1)).mono ?_
 rintro e o2 ⟨_, rfl, ⟨vp, vt, rfl, hp, ht⟩, hb2⟩
 have hB2 := hB1.trans (hb2.mono hB1.size)
 have bx2 := bx1.below hb2 bx1.lt
 obtain ⟨pp, cp, rfl, -, -, -⟩ := hp.open
 obtain ⟨pt, ct, rfl, -, -, -⟩ := ht.open
 rw [strP_length] at *
 clear hb2 hB1 bx1 k0 k1 k2 k3 HMK
 go_upto_region 4 with fail
 obtain ⟨o3, ho3⟩ : ∃ W, W = o2.alloc (.cells #[.slice pp P.length cp, .slice pt T.length ct] 30) := ⟨_, rfl⟩
 have h23 : Below o2.heap.size o2 o3 := by rw [ho3]; exact zal _ _
 have b5 : BoxN o3 o2.heap.size 30 [.slice pp P.length cp, .slice pt T.length ct] := by rw [ho3]; exact BoxN.new _ _ _ _ rfl
 have hB3 := hB2.trans (h23.mono hB2.size)
 have bx3 := bx2.below h23 bx2.lt
 rw [← ho3]
 clear ho3
 have m0 := b5.cell 0 rfl
 have m1 := b5.cell 1 rfl
 have k4 := bx3.cell 4 rfl
 have k5 := bx3.cell 5 rfl
 have k6 := bx3.cell 6 rfl
 have k7 := bx3.cell 7 rfl
 have k8 := bx3.cell 8 rfl
 have k9 := bx3.cell 9 rfl
 have k10 := bx3.cell 10 rfl
 go_wp2_with fail
 refine (HMF.out o3 _ _ (RdC.below hp h23) (RdC.below ht h23) (hg.below hB3)).mono ?_
 rintro e o4 ⟨_, rfl, hF, hb4⟩
 have hB4 := hB3.trans (hb4.mono hB3.size)
 have b54 := b5.below hb4 b5.lt
 obtain ⟨_, _, _, _, pf, cf, _, _, rfl⟩ := hF.open
 have HF4 := Lib.hid hF
 clear m0 m1 k4 k5 k6 k7 k8 k9 k10 hb4 hB3 bx3 bx2 b5 hp ht h23 hB2 hF
 have m0 := b54.cell 0 rfl
 have m1 := b54.cell 1 rfl
 go_wp2_with fail
 refine (HSL.out o4 _ _ _ HF4.out (hg.below hB4)).mono ?_
 rintro e o5 ⟨_, rfl, rfl, hb5⟩
 have hB5 := hB4.trans (hb5.mono hB4.size)
 have b55 := b54.below hb5 b54.lt
 clear m0 m1
 go_upto_region 6 with fail
 obtain ⟨o6, ho6⟩ : ∃ W, W = o5.alloc (.cells #[.string sx, .string sy] 59) := ⟨_, rfl⟩
 have h56 : Below o5.heap.size o5 o6 := by rw [ho6]; exact zal _ _
 have b7 : BoxN o6 o5.heap.size 59 [.string sx, .string sy] := by rw [ho6]; exact BoxN.new _ _ _ _ rfl
 rw [← ho6]
 clear ho6
 have hB6 := hB5.trans (h56.mono hB5.size)
 have b56 := b55.below h56 b55.lt
 have h46 := hb5.trans (h56.mono hb5.size)
 have m0 := b56.cell 0 rfl
 have m1 := b56.cell 1 rfl
 go_wp2_with fail
 refine (HNR.out o6 _ _ _ (HF4.out.below h46) (hg.below hB6)).mono ?_
 rintro e o7 ⟨_, rfl, rfl, hb7⟩
 have hB7 := hB6.trans (hb7.mono hB6.size)
 have b57 := b56.below hb7 b56.lt
 have b77 := b7.below hb7 b7.lt
 have h47 := h46.trans (hb7.mono h46.size)
 clear m0 m1
 go_upto_region 7 with fail
 obtain ⟨o8, ho8⟩ : ∃ W, W = o7.alloc (.cells #[.string nx, .string ny, .string nz] 71) := ⟨_, rfl⟩
 have h78 : Below o7.heap.size o7 o8 := by rw [ho8]; exact zal _ _
 have b9 : BoxN o8 o7.heap.size 71 [.string nx, .string ny, .string nz] := by rw [ho8]; exact BoxN.new _ _ _ _ rfl
 rw [← ho8]
 clear ho8
 have hB8 := hB7.trans (h78.mono hB7.size)
 have b58 := b57.below h78 b57.lt
 have b78 := b77.below h78 b77.lt
 have h48 := h47.trans (h78.mono h47.size)
 have HF8 := Lib.hid (HF4.out.below h48)
 clear hb5 h56 hb7 h78 h46 h47 h48 hB4 hB5 hB6 hB7 b54 b55 b56 b57 b77 b7 HF4 HSL HNR HMF
 have m0 := b58.cell 0 rfl
 have m1 := b58.cell 1 rfl
 have s0' := b78.cell 0 rfl
 have s1' := b78.cell 1 rfl
 have n0 := b9.cell 0 rfl
 have n1 := b9.cell 1 rfl
 have n2 := b9.cell 2 rfl
 rcases HCS.out with ⟨hout, rfl, rfl, rfl, rfl, rfl, rfl⟩ | ⟨t, tr, rfl, htr, rfl, rfl, rfl, rfl, rfl, rfl⟩
 ·have hQP := HQP.out ⟨#[]⟩ ⟨#[]⟩
  have hQV := HQV.out ⟨#[]⟩ ⟨#[]⟩ ⟨#[]⟩
  clear HCS
  rcases (by omega : tz < 0 ∨ (¬ tz < 0 ∧ (T.length : Int) ≤ tz)) with h1 | ⟨h1, h2⟩
  ·have h1d : decide (tz < 0) = true := decide_eq_true h1
   clear hout
   go_wp2_with fail
   go_ret
   exact ⟨_, rfl, rfl, hB8⟩
  ·have h1d : decide (tz < 0) = false := decide_eq_false (by omega)
   have h2d : decide ((T.length : Int) ≤ tz) = true := decide_eq_true h2
   clear hout
   go_wp2_with fail
   go_ret
   exact ⟨_, rfl, rfl, hB8⟩
 ·clear HCS
  obtain ⟨htl, htr2⟩ := List.getElem?_eq_some_iff.1 htr
  have hmem : tr ∈ T := by rw [← htr2]; exact List.getElem_mem htl
  have hF := HF8.out
  have hidx := hF.m.idx tr hmem
  have hfl := hF.fl
  have hAne : areaQ (ptI P tr.1) (ptI P tr.2.1) (ptI P tr.2.2) ≠ 0 := by have := areaQ_pos hF.m hmem; intro e; rw [e] at this; exact absurd this (by decide)
  have hP := hF.m.sz
  obtain ⟨bt, ot, ct', hvt, hbt, e0, -, -⟩ := hF.tri t htl
  injection hvt with hvt1 hvt2 hvt3
  clear hvt2
  subst hvt1 hvt3
  rw [htr2] at e0
  obtain ⟨g0, g1⟩ := hidx tr.1 (by simp [idxOf])
  obtain ⟨q, hq⟩ : ∃ q : Nat, tr.1 = (q : Int) := ⟨tr.1.toNat, by omega⟩
  have hqP : q < P.length := by omega
  obtain ⟨pp', cp', hvp, -, -, hpc⟩ := hF.p.open
  obtain ⟨bp, op, hpp, hbp, hcc⟩ := hpc (by intro e; have h := strP_length P; rw [e] at h; simp at h; omega)
  injection hvp with hvp1 hvp2 hvp3
  clear hvp2
  subst hvp1 hvp3 hpp
  obtain ⟨ex, ey⟩ := hcc q (by rw [strP_length]; exact hqP)
  rw [strP_get P q hqP] at ex ey
  dsimp only at ex ey
  have zp : SzP 2 P[q] := hP _ (List.getElem_mem hqP)
  have hp0 : ptI P tr.1 = P[q] := by rw [hq]; exact ptI_nat P q hqP
  obtain ⟨p0, hp0e⟩ : ∃ p, p = P[q] := ⟨_, rfl⟩
  rw [← hp0e] at ex ey zp hp0
  have hz := HSZ.out tr hmem
  have HX : Hid (lonT P F tr (p0.1 + 1, p0.2) - lonT P F tr p0 = (slopeT P F tr).1) := by unfold Hid; rw [lonT_eq hAne, lonT_eq hAne]; exact onQ_x P F tr p0
  have HY : Hid (lonT P F tr (p0.1, p0.2 + 1) - lonT P F tr p0 = (slopeT P F tr).2) := by unfold Hid; rw [lonT_eq hAne, lonT_eq hAne]; exact onQ_y P F tr p0
  have h1s : Sz 1 (1 : Rat) := Sz.one
  have zx : SzP 4 ((p0.1 + 1, p0.2) : PtQ) := ⟨(zp.1.add h1s).mono (by omega), zp.2.mono (by omega)⟩
  have zy : SzP 4 ((p0.1, p0.2 + 1) : PtQ) := ⟨zp.1.mono (by omega), (zp.2.add h1s).mono (by omega)⟩
  have hon : ∀ p : PtQ, SzP 4 p → Sz 2000 (lonT P F tr p) := fun p hp => by
   rw [lonT_eq hAne]
   unfold onQ
   have f0 : Sz 2 (hI F tr.1) := by rw [hq, hI_nat F q (by omega)]; exact hF.fs _ (List.getElem_mem _)
   have d := zp
   rw [← hp0] at d
   exact ((f0.add (hz.1.mul (hp.1.sub d.1))).add (hz.2.mul (hp.2.sub d.2))).mono (by omega)
  have HO0 : Hid (∀ (w' : World) (vp vt vf : Value), FieldIn w' vp vt vf P T 2 F → Good w' → _) := fun w' vp vt vf h hg => lon13_any w' vp vt vf P T 2 F h t htl tr htr2.symm p0 4 (by omega) ⟨zp.1.mono (by omega), zp.2.mono (by omega)⟩ (by omega) hg
  have HOX : Hid (∀ (w' : World) (vp vt vf : Value), FieldIn w' vp vt vf P T 2 F → Good w' → _) := fun w' vp vt vf h hg => lon13_any w' vp vt vf P T 2 F h t htl tr htr2.symm (p0.1 + 1, p0.2) 4 (by omega) zx (by omega) hg
  have HOY : Hid (∀ (w' : World) (vp vt vf : Value), FieldIn w' vp vt vf P T 2 F → Good w' → _) := fun w' vp vt vf h hg => lon13_any w' vp vt vf P T 2 F h t htl tr htr2.symm (p0.1, p0.2 + 1) 4 (by omega) zy (by omega) hg
  have HAX : Hid (∀ w, Good w → _) := fun w hg => addQ_any p0.1 1 4 (by omega) (by omega) (zp.1.mono (by omega)) (h1s.mono (by omega)) w hg
  have HAY : Hid (∀ w, Good w → _) := fun w hg => addQ_any p0.2 1 4 (by omega) (by omega) (zp.2.mono (by omega)) (h1s.mono (by omega)) w hg
  have HDX : Hid (∀ w, Good w → _) := fun w hg => subQ_any (lonT P F tr (p0.1 + 1, p0.2)) (lonT P F tr p0) 2000 (by omega) (by omega) (hon _ zx) (hon _ ⟨zp.1.mono (by omega), zp.2.mono (by omega)⟩) w hg
  have HDY : Hid (∀ w, Good w → _) := fun w hg => subQ_any (lonT P F tr (p0.1, p0.2 + 1)) (lonT P F tr p0) 2000 (by omega) (by omega) (hon _ zy) (hon _ ⟨zp.1.mono (by omega), zp.2.mono (by omega)⟩) w hg
  rw [rs1] at HAX HAY
  rw [HX.out] at HDX
  rw [HY.out] at HDY
  have z1 := hz.1.size (by omega)
  have z2 := hz.2.size (by omega)
  have HNX : Hid (∀ w, Good w → _) := fun w _ => (negQ_any (slopeT P F tr).1 (by omega) w).mono fun _ _ h => h.ret
  have HNY : Hid (∀ w, Good w → _) := fun w _ => (negQ_any (slopeT P F tr).2 (by omega) w).mono fun _ _ h => h.ret
  have hQP := HQP.out (RS (slopeT P F tr).1) (RS (slopeT P F tr).2)
  have hQV := HQV.out (RS (-(slopeT P F tr).1)) (RS (-(slopeT P F tr).2)) ⟨#[49]⟩
  dsimp only at HOX HOY
  generalize lonT P F tr (p0.1 + 1, p0.2) = ze at *
  generalize lonT P F tr (p0.1, p0.2 + 1) = zn at *
  generalize lonT P F tr p0 = zz at *
  generalize slopeT P F tr = S at *
  have htn : ¬ (t : Int) < 0 := by omega
  have htz : (t : Int) < (T.length : Int) := by omega
  have htd : decide ((T.length : Int) ≤ (t : Int)) = false := decide_eq_false (by omega)
  have htd2 : decide ((t : Int) < 0) = false := decide_eq_false htn
  have htd3 : decide (T.length ≤ t) = false := decide_eq_false (by omega)
  have hqz : (q : Int) < (P.length : Int) := by omega
  rw [hq] at e0
  have l5 := b58.lt
  have l7 := b78.lt
  have l9 := b9.lt
  have HF9 := Lib.hid hF
  clear hF hidx hfl hAne hP hcc hpc hp0 hp0e hz zp zx zy hon h1s htr htr2 hmem HX HY z1 z2 hq g0 g1 HF8 HSZ s0' s1' n0 n1 n2
  have HS : Hid (∀ w', Below o8.heap.size o8 w' → w'.cell? ⟨o2.heap.size, 0, none⟩ = some (.slice (some ⟨bp, op, none⟩) P.length cp) ∧ w'.cell? ⟨o2.heap.size, 1, none⟩ = some (.slice (some ⟨bt, ot, none⟩) T.length ct) ∧ w'.cell? ⟨bt, ot + t * 3, none⟩ = some (.int .i64 (q : Int)) ∧ w'.cell? ⟨bp, op + q * 2, none⟩ = some (.string (RS p0.1)) ∧ w'.cell? ⟨bp, op + q * 2 + 1, none⟩ = some (.string (RS p0.2))) := fun w' hb => ⟨(zcq hb l5 m0 :), (zcq hb l5 m1 :), (zcq hb hbt e0 :), (zcq hb hbp ex :), (zcq hb hbp ey :)⟩
  have hq00 : Below o8.heap.size o8 o8.drew := below_drewN o8 1
  have hne : ¬ T = [] := List.ne_nil_of_length_pos (by omega)
  go_upto_region 9 with fail
  go_cut [11] (fun s11 wx => ∃ b11 : Nat, s11 = .pointer (some ⟨b11, 0, none⟩) ∧ BoxP wx b11 p0 ∧ Below o8.heap.size o8 wx)
  case first =>
   go_region_held3 (fun w' => w'.cell? ⟨o2.heap.size, 0, none⟩ = some (.slice (some ⟨bp, op, none⟩) P.length cp) ∧ w'.cell? ⟨o2.heap.size, 1, none⟩ = some (.slice (some ⟨bt, ot, none⟩) T.length ct) ∧ w'.cell? ⟨bt, ot + t * 3, none⟩ = some (.int .i64 (q : Int)) ∧ w'.cell? ⟨bp, op + q * 2, none⟩ = some (.string (RS p0.1)) ∧ w'.cell? ⟨bp, op + q * 2 + 1, none⟩ = some (.string (RS p0.2)))
    ((refine HS.out _ ?_; repeat (first | with_reducible exact hq00 | with_reducible exact Below.refl _ _ | with_reducible refine Below.drew ?_ | ((with_reducible refine Below.setCell ?_ ?_ _); rotate_left; (first | omega | (simp <;> omega))) | ((with_reducible refine Below.alloc ?_ ?_ _); rotate_left; (first | exact Nat.le_refl _ | omega | (simp <;> omega))))))
    (first | fail)
   all_goals
    go_wp2_with fail
    go_meet
    refine ⟨_, rfl, ?_, ?_⟩
    ·exact boxP_new _ p0 _ _ (by first | rfl | simp)
    ·repeat (first | with_reducible exact hq00 | with_reducible exact Below.refl _ _ | with_reducible refine Below.drew ?_ | ((with_reducible refine Below.setCell ?_ ?_ _); rotate_left; (first | omega | (simp <;> omega))) | ((with_reducible refine Below.alloc ?_ ?_ _); rotate_left; (first | exact Nat.le_refl _ | omega | (simp <;> omega))))
  case rest =>
  obtain ⟨b11, rfl, ⟨u0, u1⟩, hbW⟩ := hcut
  have hBW := hB8.trans (hbW.mono hB8.size)
  have hFW := HF9.out.below hbW
  have bm := b58.below hbW l5
  have bs := b78.below hbW l7
  have bn := b9.below hbW l9
  have l11 : b11 < wc.heap.size := World.block_lt_of_cell? wc _ u0
  clear m0 m1 e0 ex ey b58 b78 b9 HF9
  have m0 := bm.cell 0 rfl
  have m1 := bm.cell 1 rfl
  go_wp2_with fail
  refine (HO0.out wc _ _ _ hFW (hg.below hBW)).mono ?_
  rintro e c1 ⟨_, rfl, rfl, hc1⟩
  have hB1 := hBW.trans (hc1.mono hBW.size)
  have hF1 := hFW.below hc1
  have bm1 := bm.below hc1 bm.lt
  have bs1 := bs.below hc1 bs.lt
  have bn1 := bn.below hc1 bn.lt
  have u0 := zcq hc1 l11 u0
  have u1 := zcq hc1 l11 u1
  have l11 := Nat.lt_of_lt_of_le l11 hc1.size
  clear m0 m1 bm bs bn hbW hc1 hFW hB8 l5 l7 l9 hbt hbp
  have m0 := bm1.cell 0 rfl
  have m1 := bm1.cell 1 rfl
  have hlm := bm1.lt
  have hgd : Good c1.drew := (hg.below hB1).drewN 1
  have HFX : Hid (∀ w', Below c1.heap.size c1 w' → FieldIn w' _ _ _ P T 2 F) := fun w' hb => hF1.below hb
  go_wp2_with fail
  go_region_held3 (fun w' => w'.cell? ⟨o2.heap.size, 0, none⟩ = some (.slice (some ⟨bp, op, none⟩) P.length cp) ∧ w'.cell? ⟨o2.heap.size, 1, none⟩ = some (.slice (some ⟨bt, ot, none⟩) T.length ct) ∧ w'.cell? ⟨b11, 0, none⟩ = some (.string (RS p0.1)) ∧ w'.cell? ⟨b11, 1, none⟩ = some (.string (RS p0.2)))
   (first | exact ⟨m0, m1, u0, u1⟩ | exact ⟨p_1_0, p_1_1, p_1_2, p_1_3⟩ | exact ⟨p_2_0, p_2_1, p_2_2, p_2_3⟩ | exact ⟨p_3_0, p_3_1, p_3_2, p_3_3⟩)
   (first
   | (go_at_call 27; refine (HDX.out _ pg2).mono ?_; rintro e pw3 ⟨_, rfl, rfl, pb3⟩
      have p_3_0 := zct pb3 p_2_0
      have p_3_1 := zct pb3 p_2_1
      have p_3_2 := zct pb3 p_2_2
      have p_3_3 := zct pb3 p_2_3
      have ps3 : pw2.heap.size ≤ pw3.heap.size := pb3.size
      have pg3 : Good pw3 := pg2.below pb3)
   | (go_at_call 26; refine (HOX.out _ _ _ _ (HFX.out _ ((below_drewN c1 1).trans (pb1.mono (Nat.le_refl _)))) pg1).mono ?_; rintro e pw2 ⟨_, rfl, rfl, pb2⟩
      have p_2_0 := zct pb2 p_1_0
      have p_2_1 := zct pb2 p_1_1
      have p_2_2 := zct pb2 p_1_2
      have p_2_3 := zct pb2 p_1_3
      have ps2 : pw1.heap.size ≤ pw2.heap.size := pb2.size
      have pg2 : Good pw2 := pg1.below pb2)
   | (go_at_call 28; refine (HAX.out _ hgd).mono ?_; rintro e pw1 ⟨_, rfl, rfl, pb1⟩
      have p_1_0 := zct pb1 m0
      have p_1_1 := zct pb1 m1
      have p_1_2 := zct pb1 u0
      have p_1_3 := zct pb1 u1
      have ps1 : c1.heap.size ≤ pw1.heap.size := pb1.size
      have pg1 : Good pw1 := hgd.below pb1))
  have pB : Below c1.heap.size c1 pw3 := zbt (zbt (zbt (below_drewN c1 1) pb1) pb2) pb3
  have hB2 := hB1.trans (pB.mono hB1.size)
  have hF2 := hF1.below pB
  have bm2 := bm1.below pB bm1.lt
  have bs2 := bs1.below pB bs1.lt
  have bn2 := bn1.below pB bn1.lt
  have u0 := zcq pB l11 u0
  have u1 := zcq pB l11 u1
  have l11 := Nat.lt_of_lt_of_le l11 pB.size
  obtain ⟨c2, hc2⟩ : ∃ W, W = pw3 := ⟨_, rfl⟩
  rw [← hc2] at hB2 hF2 bm2 bs2 bn2 u0 u1 l11 ⊢
  clear hc2 m0 m1 hgd pB pb1 pb2 pb3 pg1 pg2 pg3 ps1 ps2 ps3 bm1 bs1 bn1 hF1 HFX hlm hB1 HO0 HAX HOX HDX p_1_0 p_1_1 p_1_2 p_1_3 p_2_0 p_2_1 p_2_2 p_2_3 p_3_0 p_3_1 p_3_2 p_3_3
  have m0 := bm2.cell 0 rfl
  have m1 := bm2.cell 1 rfl
  have hlm := bm2.lt
  have hgd : Good c2.drew := (hg.below hB2).drewN 1
  go_wp2_with fail
  go_region_held3 (fun w' => w'.cell? ⟨o2.heap.size, 0, none⟩ = some (.slice (some ⟨bp, op, none⟩) P.length cp) ∧ w'.cell? ⟨o2.heap.size, 1, none⟩ = some (.slice (some ⟨bt, ot, none⟩) T.length ct) ∧ w'.cell? ⟨b11, 0, none⟩ = some (.string (RS p0.1)) ∧ w'.cell? ⟨b11, 1, none⟩ = some (.string (RS p0.2)))
   (first | exact ⟨m0, m1, u0, u1⟩ | exact ⟨q_1_0, q_1_1, q_1_2, q_1_3⟩ | exact ⟨q_2_0, q_2_1, q_2_2, q_2_3⟩ | exact ⟨q_3_0, q_3_1, q_3_2, q_3_3⟩)
   (first
   | (go_at_call 27; refine (HDY.out _ qg2).mono ?_; rintro e qw3 ⟨_, rfl, rfl, qb3⟩
      have q_3_0 := zct qb3 q_2_0
      have q_3_1 := zct qb3 q_2_1
      have q_3_2 := zct qb3 q_2_2
      have q_3_3 := zct qb3 q_2_3
      have qs3 : qw2.heap.size ≤ qw3.heap.size := qb3.size
      have qg3 : Good qw3 := qg2.below qb3)
   | (go_at_call 26; refine (HOY.out _ _ _ _ (hF2.below ((below_drewN c2 1).trans (qb1.mono (Nat.le_refl _)))) qg1).mono ?_; rintro e qw2 ⟨_, rfl, rfl, qb2⟩
      have q_2_0 := zct qb2 q_1_0
      have q_2_1 := zct qb2 q_1_1
      have q_2_2 := zct qb2 q_1_2
      have q_2_3 := zct qb2 q_1_3
      have qs2 : qw1.heap.size ≤ qw2.heap.size := qb2.size
      have qg2 : Good qw2 := qg1.below qb2)
   | (go_at_call 28; refine (HAY.out _ hgd).mono ?_; rintro e qw1 ⟨_, rfl, rfl, qb1⟩
      have q_1_0 := zct qb1 m0
      have q_1_1 := zct qb1 m1
      have q_1_2 := zct qb1 u0
      have q_1_3 := zct qb1 u1
      have qs1 : c2.heap.size ≤ qw1.heap.size := qb1.size
      have qg1 : Good qw1 := hgd.below qb1))
  have qB : Below c2.heap.size c2 qw3 := zbt (zbt (zbt (below_drewN c2 1) qb1) qb2) qb3
  have hB3 := hB2.trans (qB.mono hB2.size)
  have bs3 := bs2.below qB bs2.lt
  have bn3 := bn2.below qB bn2.lt
  obtain ⟨c3, hc3⟩ : ∃ W, W = qw3 := ⟨_, rfl⟩
  rw [← hc3] at hB3 bs3 bn3 ⊢
  clear hc3 m0 m1 hgd qB qb1 qb2 qb3 qg1 qg2 qg3 qs1 qs2 qs3 bm2 bs2 bn2 hF2 hlm hB2 u0 u1 l11 HAY HOY HDY q_1_0 q_1_1 q_1_2 q_1_3 q_2_0 q_2_1 q_2_2 q_2_3 q_3_0 q_3_1 q_3_2 q_3_3
  have v0 := bs3.cell 0 rfl
  have v1 := bs3.cell 1 rfl
  have v2 := bn3.cell 0 rfl
  have v3 := bn3.cell 1 rfl
  have v4 := bn3.cell 2 rfl
  have ls := bs3.lt
  have ln := bn3.lt
  have HS3 : Hid (∀ w', Below c3.heap.size c3 w' → w'.cell? ⟨o5.heap.size, 0, none⟩ = some (.string (RS S.1)) ∧ w'.cell? ⟨o5.heap.size, 1, none⟩ = some (.string (RS S.2)) ∧ w'.cell? ⟨o7.heap.size, 0, none⟩ = some (.string (RS (-S.1))) ∧ w'.cell? ⟨o7.heap.size, 1, none⟩ = some (.string (RS (-S.2))) ∧ w'.cell? ⟨o7.heap.size, 2, none⟩ = some (.string ⟨#[49]⟩)) := fun w' hb => ⟨(zcq hb ls v0 :), (zcq hb ls v1 :), (zcq hb ln v2 :), (zcq hb ln v3 :), (zcq hb ln v4 :)⟩
  have r0 : Below c3.heap.size c3 c3.drew := below_drewN c3 1
  have hg3 := hg.below hB3
  clear v0 v1 v2 v3 v4 bs3 bn3
  go_upto_region 13 with fail
  refine wp_region_held_drew (S := (fun w' => w'.cell? ⟨o5.heap.size, 0, none⟩ = some (.string (RS S.1)) ∧ w'.cell? ⟨o5.heap.size, 1, none⟩ = some (.string (RS S.2)) ∧ w'.cell? ⟨o7.heap.size, 0, none⟩ = some (.string (RS (-S.1))) ∧ w'.cell? ⟨o7.heap.size, 1, none⟩ = some (.string (RS (-S.2))) ∧ w'.cell? ⟨o7.heap.size, 2, none⟩ = some (.string ⟨#[49]⟩))) (by kernel_rfl) ?_ (fun hHeld => ?_)
  ·first | exact HS3.out _ r2 | exact HS3.out _ r1 | exact HS3.out _ r0
  refine wpAnyH_take (i := 0) (oi := _) (v := ?_) rfl (by kernel_rfl) (by kernel_rfl) (by kernel_rfl) (fun _ _ _ h => h) (Or.inl ⟨by rfl, ?_⟩) (by assumption) ?_
  rotate_left
  ·intro w hSw; (try dsimp only at hSw); first | (go_simp; done) | (go_simp; with_reducible rfl)
  try simp only [Act.put, List.getElem_toArray, List.getElem_cons_zero, List.setIfInBounds_toArray, List.set_cons_zero, List.set_cons_succ]
  refine wpAnyH_take (i := 1) (oi := _) (v := ?_) rfl (by kernel_rfl) (by kernel_rfl) (by kernel_rfl) (fun _ _ _ h => h) (Or.inl ⟨by rfl, ?_⟩) (by assumption) ?_
  rotate_left
  ·intro w hSw; (try dsimp only at hSw); first | (go_simp; done) | (go_simp; with_reducible rfl)
  try simp only [Act.put, List.getElem_toArray, List.getElem_cons_zero, List.getElem_cons_succ, List.setIfInBounds_toArray, List.set_cons_zero, List.set_cons_succ]
  refine wpAnyH_take (i := 2) (oi := _) (v := ?_) rfl (by kernel_rfl) (by kernel_rfl) (by kernel_rfl) (fun _ _ _ h => h) (Or.inl ⟨by rfl, ?_⟩) (by assumption) ?_
  rotate_left
  ·intro w hSw; (try dsimp only at hSw); first | (go_simp; done) | (go_simp; with_reducible rfl)
  try simp only [Act.put, List.getElem_toArray, List.getElem_cons_zero, List.getElem_cons_succ, List.setIfInBounds_toArray, List.set_cons_zero, List.set_cons_succ]
  refine wpAnyH_take (i := 3) (oi := _) (v := ?_) rfl (by kernel_rfl) (by kernel_rfl) (by kernel_rfl) (fun _ _ _ h => h) (Or.inl ⟨by rfl, ?_⟩) (by assumption) ?_
  rotate_left
  ·intro w hSw; (try dsimp only at hSw); first | (go_simp; done) | (go_simp; with_reducible rfl)
  try simp only [Act.put, List.getElem_toArray, List.getElem_cons_zero, List.getElem_cons_succ, List.setIfInBounds_toArray, List.set_cons_zero, List.set_cons_succ]
  refine wpAnyH_take (i := 4) (oi := _) (v := ?_) rfl (by kernel_rfl) (by kernel_rfl) (by kernel_rfl) (fun _ _ _ h => h) (Or.inl ⟨by rfl, ?_⟩) (by assumption) ?_
  rotate_left
  ·intro w hSw; (try dsimp only at hSw); first | (go_simp; done) | (go_simp; with_reducible rfl)
  try simp only [Act.put, List.getElem_toArray, List.getElem_cons_zero, List.getElem_cons_succ, List.setIfInBounds_toArray, List.set_cons_zero, List.set_cons_succ]
  refine wpAnyH_take (i := 5) (oi := _) (v := ?_) rfl (by kernel_rfl) (by kernel_rfl) (by kernel_rfl) (fun _ _ _ h => h) (Or.inl ⟨by rfl, ?_⟩) (by assumption) ?_
  rotate_left
  ·intro w hSw; (try dsimp only at hSw); first | (go_simp; done) | (go_simp; with_reducible rfl)
  try simp only [Act.put, List.getElem_toArray, List.getElem_cons_zero, List.getElem_cons_succ, List.setIfInBounds_toArray, List.set_cons_zero, List.set_cons_succ]
  refine wpAnyH_take (i := 6) (oi := _) (v := ?_) rfl (by kernel_rfl) (by kernel_rfl) (by kernel_rfl) (fun _ _ _ h => h) (Or.inl ⟨by rfl, ?_⟩) (by assumption) ?_
  rotate_left
  ·intro w hSw; (try dsimp only at hSw); first | (go_simp; done) | (go_simp; with_reducible rfl)
  try simp only [Act.put, List.getElem_toArray, List.getElem_cons_zero, List.getElem_cons_succ, List.setIfInBounds_toArray, List.set_cons_zero, List.set_cons_succ]
  refine wpAnyH_take (i := 7) (oi := _) (v := ?_) rfl (by kernel_rfl) (by kernel_rfl) (by kernel_rfl) (fun _ _ _ h => h) (Or.inl ⟨by rfl, ?_⟩) (by assumption) ?_
  rotate_left
  ·intro w hSw; (try dsimp only at hSw); first | (go_simp; done) | (go_simp; with_reducible rfl)
  try simp only [Act.put, List.getElem_toArray, List.getElem_cons_zero, List.getElem_cons_succ, List.setIfInBounds_toArray, List.set_cons_zero, List.set_cons_succ]
  refine wpAnyH_take (i := 8) (oi := _) (v := ?_) rfl (by kernel_rfl) (by kernel_rfl) (by kernel_rfl) (fun _ _ _ h => h) (Or.inl ⟨by rfl, ?_⟩) (by assumption) ?_
  rotate_left
  ·intro w hSw; (try dsimp only at hSw); first | (go_simp; done) | (go_simp; with_reducible rfl)
  try simp only [Act.put, List.getElem_toArray, List.getElem_cons_zero, List.getElem_cons_succ, List.setIfInBounds_toArray, List.set_cons_zero, List.set_cons_succ]
  refine wpAnyH_take (i := 9) (oi := _) (v := ?_) rfl (by kernel_rfl) (by kernel_rfl) (by kernel_rfl) (fun _ _ _ h => h) (Or.inl ⟨by rfl, ?_⟩) (by assumption) ?_
  rotate_left
  ·intro w hSw; (try dsimp only at hSw); first | (go_simp; done) | (go_simp; with_reducible rfl)
  try simp only [Act.put, List.getElem_toArray, List.getElem_cons_zero, List.getElem_cons_succ, List.setIfInBounds_toArray, List.set_cons_zero, List.set_cons_succ]
  refine wpAnyH_take (i := 10) (oi := _) (v := ?_) rfl (by kernel_rfl) (by kernel_rfl) (by kernel_rfl) (fun _ _ _ h => h) (Or.inl ⟨by rfl, ?_⟩) (by assumption) ?_
  rotate_left
  ·intro w hSw; (try dsimp only at hSw); first | (go_simp; done) | (go_simp; with_reducible rfl)
  try simp only [Act.put, List.getElem_toArray, List.getElem_cons_zero, List.getElem_cons_succ, List.setIfInBounds_toArray, List.set_cons_zero, List.set_cons_succ]
  refine wpAnyH_take (i := 11) (oi := _) (v := ?_) rfl (by kernel_rfl) (by kernel_rfl) (by kernel_rfl) (fun _ _ _ h => h) (Or.inl ⟨by rfl, ?_⟩) (by assumption) ?_
  rotate_left
  ·intro w hSw; (try dsimp only at hSw); first | (go_simp; done) | (go_simp; with_reducible rfl)
  try simp only [Act.put, List.getElem_toArray, List.getElem_cons_zero, List.getElem_cons_succ, List.setIfInBounds_toArray, List.set_cons_zero, List.set_cons_succ]
  refine wpAnyH_take (i := 12) (oi := _) (v := ?_) rfl (by kernel_rfl) (by kernel_rfl) (by kernel_rfl) (fun _ _ _ h => h) (Or.inl ⟨by rfl, ?_⟩) (by assumption) ?_
  rotate_left
  ·intro w hSw; (try dsimp only at hSw); first | (go_simp; done) | (go_simp; with_reducible rfl)
  try simp only [Act.put, List.getElem_toArray, List.getElem_cons_zero, List.getElem_cons_succ, List.setIfInBounds_toArray, List.set_cons_zero, List.set_cons_succ]
  refine wpAnyH_take (i := 13) (oi := _) (v := ?_) rfl (by kernel_rfl) (by kernel_rfl) (by kernel_rfl) (fun _ _ _ h => h) (Or.inl ⟨by rfl, ?_⟩) (by assumption) ?_
  rotate_left
  ·intro w hSw; (try dsimp only at hSw); first | (go_simp; done) | (go_simp; with_reducible rfl)
  try simp only [Act.put, List.getElem_toArray, List.getElem_cons_zero, List.getElem_cons_succ, List.setIfInBounds_toArray, List.set_cons_zero, List.set_cons_succ]
  refine wpAnyH_take (i := 14) (oi := _) (v := ?_) rfl (by kernel_rfl) (by kernel_rfl) (by kernel_rfl) (fun _ _ _ h => h) (Or.inl ⟨by rfl, ?_⟩) (by assumption) ?_
  rotate_left
  ·intro w hSw; (try dsimp only at hSw); first | (go_simp; done) | (go_simp; with_reducible rfl)
  try simp only [Act.put, List.getElem_toArray, List.getElem_cons_zero, List.getElem_cons_succ, List.setIfInBounds_toArray, List.set_cons_zero, List.set_cons_succ]
  refine wpAnyH_take (i := 15) (oi := _) (v := ?_) rfl (by kernel_rfl) (by kernel_rfl) (by kernel_rfl) (fun _ _ _ h => h) (Or.inl ⟨by rfl, ?_⟩) (by assumption) ?_
  rotate_left
  ·intro w hSw; (try dsimp only at hSw); first | (go_simp; done) | (go_simp; with_reducible rfl)
  try simp only [Act.put, List.getElem_toArray, List.getElem_cons_zero, List.getElem_cons_succ, List.setIfInBounds_toArray, List.set_cons_zero, List.set_cons_succ]
  refine wpAnyH_take (i := 17) (oi := _) (v := ?_) rfl (by kernel_rfl) (by kernel_rfl) (by kernel_rfl) (fun _ _ _ h => h) (Or.inl ⟨by rfl, ?_⟩) (by assumption) ?_
  rotate_left
  ·intro w hSw; (try dsimp only at hSw); first | (go_simp; done) | (go_simp; with_reducible rfl)
  try simp only [Act.put, List.getElem_toArray, List.getElem_cons_zero, List.getElem_cons_succ, List.setIfInBounds_toArray, List.set_cons_zero, List.set_cons_succ]
  refine wpAnyH_ready (rs := [16]) (by kernel_rfl) (by simp) ?_
  refine AllReadyH.cons (o := _) rfl (fun K hK => ?_) AllReadyH.nil
  go_simp
  (refine (HNX.out _ (hg3.below r0)).mono ?_; rintro e w1 ⟨_, rfl, rfl, hw1⟩; have r1 := r0.trans (hw1.mono r0.size))
  refine hK.out _ _ ?_ (fun hHeld => ?_)
  ·first | exact HS3.out _ r2 | exact HS3.out _ r1 | exact HS3.out _ r0
  clear hK K
  try simp only [Act.put, List.getElem_toArray, List.getElem_cons_zero, List.getElem_cons_succ, List.setIfInBounds_toArray, List.set_cons_zero, List.set_cons_succ]
  refine wpAnyH_ready (rs := [18]) (by kernel_rfl) (by simp) ?_
  refine AllReadyH.cons (o := _) rfl (fun K hK => ?_) AllReadyH.nil
  go_simp
  (refine (HNY.out _ (hg3.below r1)).mono ?_; rintro e w2 ⟨_, rfl, rfl, hw2⟩; have r2 := r1.trans (hw2.mono r1.size))
  refine hK.out _ _ ?_ (fun hHeld => ?_)
  ·first | exact HS3.out _ r2 | exact HS3.out _ r1 | exact HS3.out _ r0
  clear hK K
  try simp only [Act.put, List.getElem_toArray, List.getElem_cons_zero, List.getElem_cons_succ, List.setIfInBounds_toArray, List.set_cons_zero, List.set_cons_succ]
  refine wpAnyH_take (i := 19) (oi := _) (v := ?_) rfl (by kernel_rfl) (by kernel_rfl) (by kernel_rfl) (fun _ _ _ h => h) (Or.inl ⟨by rfl, ?_⟩) (by assumption) ?_
  rotate_left
  ·intro w hSw; (try dsimp only at hSw); first | (go_simp; done) | (go_simp; with_reducible rfl)
  try simp only [Act.put, List.getElem_toArray, List.getElem_cons_zero, List.getElem_cons_succ, List.setIfInBounds_toArray, List.set_cons_zero, List.set_cons_succ]
  refine wpAnyH_take (i := 20) (oi := _) (v := ?_) rfl (by kernel_rfl) (by kernel_rfl) (by kernel_rfl) (fun _ _ _ h => h) (Or.inl ⟨by rfl, ?_⟩) (by assumption) ?_
  rotate_left
  ·intro w hSw; (try dsimp only at hSw); first | (go_simp; done) | (go_simp; with_reducible rfl)
  try simp only [Act.put, List.getElem_toArray, List.getElem_cons_zero, List.getElem_cons_succ, List.setIfInBounds_toArray, List.set_cons_zero, List.set_cons_succ]
  refine wpAnyH_take (i := 21) (oi := _) (v := ?_) rfl (by kernel_rfl) (by kernel_rfl) (by kernel_rfl) (fun _ _ _ h => h) (Or.inl ⟨by rfl, ?_⟩) (by assumption) ?_
  rotate_left
  ·intro w hSw; (try dsimp only at hSw); first | (go_simp; done) | (go_simp; with_reducible rfl)
  try simp only [Act.put, List.getElem_toArray, List.getElem_cons_zero, List.getElem_cons_succ, List.setIfInBounds_toArray, List.set_cons_zero, List.set_cons_succ]
  refine wpAnyH_take (i := 22) (oi := _) (v := ?_) rfl (by kernel_rfl) (by kernel_rfl) (by kernel_rfl) (fun _ _ _ h => h) (Or.inl ⟨by rfl, ?_⟩) (by assumption) ?_
  rotate_left
  ·intro w hSw; (try dsimp only at hSw); first | (go_simp; done) | (go_simp; with_reducible rfl)
  try simp only [Act.put, List.getElem_toArray, List.getElem_cons_zero, List.getElem_cons_succ, List.setIfInBounds_toArray, List.set_cons_zero, List.set_cons_succ]
  refine wpAnyH_done (by kernel_rfl) ?_ _
  have hB4 := hB3.trans (r2.mono hB3.size)
  go_wp2_with fail
  go_ret
  exact ⟨_, rfl, rfl, hB4⟩
theorem fieldSlopes_all (w : World) (kz s0 s1 : Int) (half : Bool) (a0 a1 a2 a3 a4 a5 : Int) (ah : Bool) (b0 b1 b2 b3 b4 b5 : Int) (bh : Bool) (tz : Int) (hk0 : 0 ≤ kz) (hk1 : kz ≤ 255) (hs0 : -128 ≤ s0 ∧ s0 ≤ 127) (hs1 : -128 ≤ s1 ∧ s1 ≤ 127) (ha : ∀ x ∈ [a0, a1, a2, a3, a4, a5], -128 ≤ x ∧ x ≤ 127) (hg : Good w) :
 Calls Tryz.prog 5 #[.agg #[.int .u8 kz, .int .i8 s0, .int .i8 s1, .bool half, .int .i8 a0, .int .i8 a1, .int .i8 a2, .int .i8 a3, .int .i8 a4, .int .i8 a5, .bool ah, .int .i8 b0, .int .i8 b1, .int .i8 b2, .int .i8 b3, .int .i8 b4, .int .i8 b5, .bool bh], .int .i64 tz] w (Ret (fun r _ => r = .bool true) w) := by
 obtain ⟨kk, hk⟩ : ∃ k : Nat, kz.tmod 8 = (k : Int) := ⟨(kz.tmod 8).toNat, by have := Int.tmod_nonneg 8 hk0; omega⟩
 have HMK := Lib.hid fun w hg => make12_any w kz s0 s1 half kk hk hk0 hk1 hs0 hs1 hg
 have hM : MeshOK (sheetP kk s0 s1 half) (shapeT kk) 2 := sheet_ok kk s0 s1 half
 have hP6 : (sheetP kk s0 s1 half).length ≤ 6 := by rw [sheetP_length]; exact shapeP_len kk
 have hFs := heights_Sz [a0, a1, a2, a3, a4, a5] ah (sheetP kk s0 s1 half).length
 have hsl : ∀ tr ∈ shapeT kk, SzP 200 (slopeT (sheetP kk s0 s1 half) (heightsF [a0, a1, a2, a3, a4, a5] ah (sheetP kk s0 s1 half).length) tr) := fun tr htr => by
  have := slope_Sz hM rfl hFs htr
  exact ⟨this.1.mono (by omega), this.2.mono (by omega)⟩
 have HMF : Hid (∀ w vp vt, RdP w vp (strP (sheetP kk s0 s1 half)) → RdT w vt (shapeT kk) → Good w → Calls Tryz.prog 20 #[.agg #[vp, vt], .agg #[.int .i8 a0, .int .i8 a1, .int .i8 a2, .int .i8 a3, .int .i8 a4, .int .i8 a5, .bool ah]] w (Ret (fun r w' => FieldIn w' vp vt r (sheetP kk s0 s1 half) (shapeT kk) 2 (heightsF [a0, a1, a2, a3, a4, a5] ah (sheetP kk s0 s1 half).length)) w)) := fun w vp vt hp ht hg => by
  obtain ⟨pp, cp, rfl, -, -, -⟩ := hp.open
  rw [strP_length]
  rw [strP_length] at hp
  refine (make13_any w pp _ cp vt a0 a1 a2 a3 a4 a5 ah ha hP6 hg).mono ?_
  rintro e w' ⟨r, rfl, ⟨hf, -⟩, hb⟩
  exact ⟨r, rfl, make_in (RdC.below hp hb) (RdC.below ht hb) hf, hb⟩
 by_cases h : tz < 0 ∨ ((shapeT kk).length : Int) ≤ tz
 ·exact fieldSlopes_walk w kz s0 s1 half a0 a1 a2 a3 a4 a5 ah b0 b1 b2 b3 b4 b5 bh tz _ _ _ _ _ _ _ _ 3 HMK HMF
   (fun w vp vt vf hF hg => fslope_range w vp vt vf _ _ 2 _ hF tz h hg) (fun w vp vt vf hF hg => fnormal_range w vp vt vf _ _ 2 _ hF tz h hg) hsl (.inl ⟨h, rfl, rfl, rfl, rfl, rfl, rfl⟩) hg
 ·obtain ⟨t, rfl⟩ : ∃ t : Nat, tz = (t : Int) := ⟨tz.toNat, by omega⟩
  have htl : t < (shapeT kk).length := by omega
  exact fieldSlopes_walk w kz s0 s1 half a0 a1 a2 a3 a4 a5 ah b0 b1 b2 b3 b4 b5 bh (t : Int) _ _ _ _ _ _ _ _ 0 HMK HMF
   (fun w vp vt vf hF hg => fslope_ok w vp vt vf _ _ 2 _ hF t t rfl htl _ rfl (hsl _ (List.getElem_mem htl)) hg) (fun w vp vt vf hF hg => normal_ok w vp vt vf _ _ 2 _ hF t t rfl htl _ rfl (hsl _ (List.getElem_mem htl)) hg) hsl
   (.inr ⟨t, _, rfl, List.getElem?_eq_getElem htl, rfl, rfl, rfl, rfl, rfl, rfl⟩) hg
end Go.Proofs.YtdhcliekejiegaaGreatDoor
