/- The walk over klippelaw38.mean. -/
import Derived.Test.YtjfjkiibmfgplaaGreatDoorW6
namespace Go.Proofs.YtjfjkiibmfgplaaGreatDoor
open Go.RowKit Go.Lib

theorem RS_third : RS (1 / 3) = ⟨#[49, 47, 51]⟩ := by
  have h : (1 / 3 : Rat) = mkRat 1 3 := by decide +kernel
  have h1 : (1 / 3 : Rat).num = 1 := by decide +kernel
  have h2 : (1 / 3 : Rat).den = 3 := by decide +kernel
  unfold RS RL
  rw [h1, h2, if_neg (by decide)]
  have e1 : itoa 1 = [49] := by
    have := dec_small 1 (by omega) (by omega)
    unfold itoa
    simpa using this
  have e2 : decDigits 3 = [51] := dec_small 3 (by omega) (by omega)
  simp [e1, e2]

/-- The sum of the heights of a triangle's corners, as the reference adds them. -/
def thrQ (D : List Rat) (tr : Tri) : Rat := hI D tr.1 + hI D tr.2.1 + hI D tr.2.2
def sumR (P : List PtQ) (D : List Rat) (T : List Tri) : Rat := T.foldl (fun s tr => s + areaT P tr * (thrQ D tr * (1 / 3))) 0
theorem thrQ_tri (D : List Rat) (tr : Tri) : triSum D tr = thrQ D tr := by
  unfold triSum thrQ
  simp only [List.foldl_cons, List.foldl_nil]
  grind
theorem sumR_eq (P : List PtQ) (D : List Rat) (T : List Tri) : sumR P D T * 3 = sumM P D T := by
  unfold sumR sumM
  have key : ∀ (l : List Tri) (x y : Rat), x * 3 = y → (l.foldl (fun s tr => s + areaT P tr * (thrQ D tr * (1 / 3))) x) * 3 = l.foldl (fun s tr => s + areaT P tr * triSum D tr) y := by
    intro l
    induction l with
    | nil => intro x y h; exact h
    | cons a l ih =>
      intro x y h
      rw [List.foldl_cons, List.foldl_cons]
      refine ih _ _ ?_
      rw [thrQ_tri]
      grind
  exact key T 0 0 (by grind)
theorem mean_eq (P : List PtQ) (D : List Rat) (T : List Tri) (h : allM P T ≠ 0) : sumR P D T / allM P T = meanQ P D T := by
  unfold meanQ
  rw [← sumR_eq]
  grind

set_option maxHeartbeats 8000000 in
set_option maxRecDepth 100000 in
theorem refmean_ok (w : World) (vp vt vd : Value) (P : List PtQ) (T : List Tri) (k : Nat) (D : List Rat) (hp : RdP w vp (strP P)) (ht : RdT w vt T) (hm : MeshIn P T k) (hpos : ∀ tr ∈ T, 0 < areaT P tr) (hd : RdQ w vd D) (hdl : D.length = P.length) (hdz : ∀ q ∈ D, Sz 41 q) (hk : k ≤ 20) (hT : T.length ≤ 20)
    (hall : allM P T ≠ 0) (hg : Good w) :
    Calls Tryz.prog 36 #[.agg #[vp, vt], vd] w (Ret (fun r _ => r = .string (RS (meanQ P D T))) w) := by
  have HME := Lib.hid (mean_eq P D T hall)
  have HALL := Lib.hid hall
  have HDZ := Lib.hid hdz
  have HM := Lib.hid hm
  have HPOS := Lib.hid hpos
  obtain ⟨pp, cp, rfl, -, -, hpr⟩ := hp.open
  obtain ⟨pt, ct, rfl, -, -, htr⟩ := ht.open
  obtain ⟨pd, cd, rfl, -, -, hdr⟩ := hd.open
  rw [strP_length]
  have HPR := Lib.hid hpr
  have HTR := Lib.hid htr
  have HDR := Lib.hid hdr
  have HDL := Lib.hid hdl
  generalize hmq : meanQ P D T = mq at *
  clear hp ht hm hpos hd hdl hdz hall hpr htr hdr hmq
  go_enter Tryz.func36, Tryz.ntmps36
  go_wp2_with fail
  obtain ⟨W, hW⟩ : ∃ W, W = w.alloc (.cells #[.slice pp P.length cp, .slice pt T.length ct] 40) := ⟨_, rfl⟩
  have hB : Below w.heap.size w W := by rw [hW]; exact (Below.refl _ _).alloc (Nat.le_refl _) _
  have b2 : BoxN W w.heap.size 40 [.slice pp P.length cp, .slice pt T.length ct] := by rw [hW]; exact BoxN.new _ _ _ _ rfl
  have x0 := b2.cell 0 rfl
  have x1 := b2.cell 1 rfl
  have hz2 := b2.lt
  rw [← hW]
  clear hW
  go_loopw [5, 6, 14] (fun t5 t6 t14 wr => ∃ (i : Nat) (a s : Rat), t5 = .string (RS a) ∧ t6 = .string (RS s) ∧ t14 = .int .i64 i ∧ i ≤ T.length ∧ Hid (s = sumR P D (T.take i)) ∧ Hid (a = allM P (T.take i)) ∧ Hid (Sz (i * 900 + 1) s) ∧ Hid (Sz (i * 400 + 1) a) ∧ Below W.heap.size W wr) (fun _ _ t14 _ => T.length - (RowKit.intOf t14).toNat)
  case atStart => exact ⟨0, 0, 0, congrArg Value.string RS_zero.symm, congrArg Value.string RS_zero.symm, rfl, Nat.zero_le _, rfl, rfl, Sz.zero _ (by omega), Sz.zero _ (by omega), Below.refl _ _⟩
  case round =>
    obtain ⟨i, a, s, rfl, rfl, rfl, hi, HS, HA, HSS, HSA, hbl⟩ := hrel
    have hzr := hbl.size
    have hbW : Below w.heap.size w wr := hB.trans (hbl.mono hB.size)
    rcases Nat.lt_or_ge i T.length with h | h
    · obtain ⟨bt, ot, rfl, hbt, htc⟩ := HTR.out (List.ne_nil_of_length_pos (by omega))
      obtain ⟨t0, t1, t2⟩ := htc i h
      have hmem := List.getElem_mem h
      obtain ⟨tr, htr⟩ : ∃ tr, tr = T[i] := ⟨_, rfl⟩
      have hidx := HM.out.idx _ hmem
      have hps := HPOS.out _ hmem
      have HST : Hid (sumR P D (T.take (i + 1)) = s + areaT P tr * (thrQ D tr * (1 / 3))) := by unfold Hid; rw [HS.out, htr]; exact foldl_step _ _ _ _ h
      have HAT : Hid (allM P (T.take (i + 1)) = a + areaT P tr) := by unfold Hid; rw [HA.out, htr]; exact foldl_step _ _ _ _ h
      have HZA : Hid (Sz 165 (areaT P tr)) := (Sz.areaT HM.out (htr ▸ hmem)).mono (by omega)
      rw [← htr] at t0 t1 t2 hmem hidx hps
      clear htr htc
      obtain ⟨q0z, q1z, q2z⟩ := tr
      unfold areaT at HZA hps HST HAT
      unfold thrQ at HST
      dsimp only at t0 t1 t2 hidx HZA hps HST HAT
      obtain ⟨a00, a01⟩ := hidx q0z (by simp [idxOf])
      obtain ⟨a10, a11⟩ := hidx q1z (by simp [idxOf])
      obtain ⟨a20, a21⟩ := hidx q2z (by simp [idxOf])
      obtain ⟨q0, rfl⟩ : ∃ q : Nat, q0z = (q : Int) := ⟨q0z.toNat, by omega⟩
      obtain ⟨q1, rfl⟩ : ∃ q : Nat, q1z = (q : Int) := ⟨q1z.toNat, by omega⟩
      obtain ⟨q2, rfl⟩ : ∃ q : Nat, q2z = (q : Int) := ⟨q2z.toNat, by omega⟩
      have hdl := HDL.out
      have g0 : q0 < P.length := by omega
      have g1 : q1 < P.length := by omega
      have g2 : q2 < P.length := by omega
      obtain ⟨bp, op, rfl, hbp, hpc⟩ := HPR.out (by intro e; have h := strP_length P; rw [e] at h; simp at h; omega)
      obtain ⟨bd, od, rfl, hbd, hdc⟩ := HDR.out (List.ne_nil_of_length_pos (by omega))
      obtain ⟨k00, k01⟩ := hpc q0 (by rw [strP_length]; exact g0)
      obtain ⟨k10, k11⟩ := hpc q1 (by rw [strP_length]; exact g1)
      obtain ⟨k20, k21⟩ := hpc q2 (by rw [strP_length]; exact g2)
      rw [strP_get P q0 g0] at k00 k01
      rw [strP_get P q1 g1] at k10 k11
      rw [strP_get P q2 g2] at k20 k21
      dsimp only at k00 k01 k10 k11 k20 k21
      have f0 := hdc q0 (by omega)
      have f1 := hdc q1 (by omega)
      have f2 := hdc q2 (by omega)
      rw [ptI_nat P q0 g0, ptI_nat P q1 g1, ptI_nat P q2 g2] at HZA hps HST HAT
      rw [hI_nat D q0 (by omega), hI_nat D q1 (by omega), hI_nat D q2 (by omega)] at HST
      have zp0 := HM.out.sz P[q0] (List.getElem_mem _)
      have zp1 := HM.out.sz P[q1] (List.getElem_mem _)
      have zp2 := HM.out.sz P[q2] (List.getElem_mem _)
      have zd0 := HDZ.out D[q0] (List.getElem_mem _)
      have zd1 := HDZ.out D[q1] (List.getElem_mem _)
      have zd2 := HDZ.out D[q2] (List.getElem_mem _)
      have HFL : Hid (∀ w, Good w → _) := fun w hg => flat_any P[q0] P[q1] P[q2] 20 (by omega) (by omega) ⟨zp0.1.mono hk, zp0.2.mono hk⟩ ⟨zp1.1.mono hk, zp1.2.mono hk⟩ ⟨zp2.1.mono hk, zp2.2.mono hk⟩ hps w hg
      generalize D[q0]'_ = h0 at *
      generalize D[q1]'_ = h1 at *
      generalize D[q2]'_ = h2 at *
      generalize areaQ P[q0] P[q1] P[q2] = ar at *
      generalize RS P[q0].1 = p0x at *
      generalize RS P[q0].2 = p0y at *
      generalize RS P[q1].1 = p1x at *
      generalize RS P[q1].2 = p1y at *
      generalize RS P[q2].1 = p2x at *
      generalize RS P[q2].2 = p2y at *
      have z01 : Sz 84 (h0 + h1) := (zd0.add zd1).mono (by omega)
      have z012 : Sz 127 (h0 + h1 + h2) := (z01.add zd2).mono (by omega)
      have z13 : Sz 1 (1 / 3 : Rat) := ⟨by decide +kernel, by decide +kernel⟩
      have zt : Sz 128 ((h0 + h1 + h2) * (1 / 3)) := (z012.mul z13).mono (by omega)
      have zm : Sz 293 (ar * ((h0 + h1 + h2) * (1 / 3))) := (HZA.out.mul zt).mono (by omega)
      have HZSN : Hid (Sz ((i + 1) * 900 + 1) (s + ar * ((h0 + h1 + h2) * (1 / 3)))) := (HSS.out.add zm).mono (by omega)
      have HZAN : Hid (Sz ((i + 1) * 400 + 1) (a + ar)) := (HSA.out.add HZA.out).mono (by omega)
      have HADA : Hid (∀ w, Good w → _) := fun w hg => addQ_any a ar 20000 (by omega) (by omega) (HSA.out.mono (by omega)) (HZA.out.mono (by omega)) w hg
      have HAD1 : Hid (∀ w, Good w → _) := fun w hg => addQ_any h0 h1 41 (by omega) (by omega) zd0 zd1 w hg
      have HAD2 : Hid (∀ w, Good w → _) := fun w hg => addQ_any (h0 + h1) h2 84 (by omega) (by omega) z01 (zd2.mono (by omega)) w hg
      have HMU1 : Hid (∀ w, Good w → _) := fun w hg => mulQ_any (h0 + h1 + h2) (1 / 3) 127 (by omega) (by omega) z012 (z13.mono (by omega)) w hg
      have HMU2 : Hid (∀ w, Good w → _) := fun w hg => mulQ_any ar ((h0 + h1 + h2) * (1 / 3)) 165 (by omega) (by omega) HZA.out (zt.mono (by omega)) w hg
      have HADS : Hid (∀ w, Good w → _) := fun w hg => addQ_any s (ar * ((h0 + h1 + h2) * (1 / 3))) 20000 (by omega) (by omega) (HSS.out.mono (by omega)) (zm.mono (by omega)) w hg
      rw [RS_third] at HMU1
      generalize s + ar * ((h0 + h1 + h2) * (1 / 3)) = sn at *
      generalize ar * ((h0 + h1 + h2) * (1 / 3)) = m2 at *
      generalize (h0 + h1 + h2) * (1 / 3) = m1 at *
      generalize h0 + h1 + h2 = e2 at *
      generalize h0 + h1 = e1 at *
      generalize a + ar = an at *
      have hiz : (i : Int) < (T.length : Int) := by omega
      have r0 : (q0 : Int) < (P.length : Int) := by omega
      have r1 : (q1 : Int) < (P.length : Int) := by omega
      have r2 : (q2 : Int) < (P.length : Int) := by omega
      have s0 : (q0 : Int) < (D.length : Int) := by omega
      have s1 : (q1 : Int) < (D.length : Int) := by omega
      have s2 : (q2 : Int) < (D.length : Int) := by omega
      have y0 := (hbW.cell (p := ⟨bt, ot + i * 3, none⟩) hbt).trans t0
      have y1 := (hbW.cell (p := ⟨bt, ot + i * 3 + 1, none⟩) hbt).trans t1
      have y2 := (hbW.cell (p := ⟨bt, ot + i * 3 + 2, none⟩) hbt).trans t2
      clear z01 z012 z13 zt zm zd0 zd1 zd2 zp0 zp1 zp2 hps hidx hmem a00 a01 a10 a11 a20 a21 hdl HS HA HSS HSA HZA hpc hdc t0 t1 t2
      go_upto_region 5 with fail
      obtain ⟨W3, hW3⟩ : ∃ W3, W3 = wr.alloc (.cells #[.int .i64 q0, .int .i64 q1, .int .i64 q2] 58) := ⟨_, rfl⟩
      have hb3 : Below wr.heap.size wr W3 := by rw [hW3]; exact (Below.refl _ _).alloc (Nat.le_refl _) _
      have b8 : BoxN W3 wr.heap.size 58 [.int .i64 q0, .int .i64 q1, .int .i64 q2] := by rw [hW3]; exact BoxN.new _ _ _ _ rfl
      rw [← hW3]
      clear hW3 y0 y1 y2
      have hbW3 : Below w.heap.size w W3 := hbW.trans (hb3.mono hbW.size)
      have hbl3 : Below W.heap.size W W3 := hbl.trans (hb3.mono hzr)
      have u0 := (hbl3.cell (p := ⟨w.heap.size, 0, none⟩) hz2).trans x0
      have v0 := b8.cell 0 rfl
      have v1 := b8.cell 1 rfl
      have v2 := b8.cell 2 rfl
      have n00 := (hbW3.cell (p := ⟨bp, op + q0 * 2, none⟩) hbp).trans k00
      have n01 := (hbW3.cell (p := ⟨bp, op + q0 * 2 + 1, none⟩) hbp).trans k01
      have n10 := (hbW3.cell (p := ⟨bp, op + q1 * 2, none⟩) hbp).trans k10
      have n11 := (hbW3.cell (p := ⟨bp, op + q1 * 2 + 1, none⟩) hbp).trans k11
      have n20 := (hbW3.cell (p := ⟨bp, op + q2 * 2, none⟩) hbp).trans k20
      have n21 := (hbW3.cell (p := ⟨bp, op + q2 * 2 + 1, none⟩) hbp).trans k21
      have hl8 := b8.lt
      have hzz3 := hbW3.size
      have hzb := hbl3.size
      have hgd : Good W3.drew := (hg.below hbW3).drewN 1
      clear k00 k01 k10 k11 k20 k21 hb3
      go_region_held3 (fun w' => w'.cell? ⟨w.heap.size, 0, none⟩ = some (.slice (some ⟨bp, op, none⟩) P.length cp) ∧ w'.cell? ⟨wr.heap.size, 0, none⟩ = some (.int .i64 q0) ∧ w'.cell? ⟨wr.heap.size, 1, none⟩ = some (.int .i64 q1) ∧ w'.cell? ⟨wr.heap.size, 2, none⟩ = some (.int .i64 q2) ∧ w'.cell? ⟨bp, op + q0 * 2, none⟩ = some (.string p0x) ∧ w'.cell? ⟨bp, op + q0 * 2 + 1, none⟩ = some (.string p0y) ∧ w'.cell? ⟨bp, op + q1 * 2, none⟩ = some (.string p1x) ∧ w'.cell? ⟨bp, op + q1 * 2 + 1, none⟩ = some (.string p1y) ∧ w'.cell? ⟨bp, op + q2 * 2, none⟩ = some (.string p2x) ∧ w'.cell? ⟨bp, op + q2 * 2 + 1, none⟩ = some (.string p2y))
        (first | exact ⟨u0, v0, v1, v2, n00, n01, n10, n11, n20, n21⟩ | exact ⟨p_1_0, p_1_1, p_1_2, p_1_3, p_1_4, p_1_5, p_1_6, p_1_7, p_1_8, p_1_9⟩)
        (first
        | (go_at_call 93; refine (HFL.out _ hgd).mono ?_; rintro e pw1 ⟨_, rfl, rfl, pb1⟩
           have p_1_0 := (pb1.cell (p := ⟨w.heap.size, 0, none⟩) (by show w.heap.size < W3.heap.size; omega)).trans u0
           have p_1_1 := (pb1.cell (p := ⟨wr.heap.size, 0, none⟩) (by show wr.heap.size < W3.heap.size; omega)).trans v0
           have p_1_2 := (pb1.cell (p := ⟨wr.heap.size, 1, none⟩) (by show wr.heap.size < W3.heap.size; omega)).trans v1
           have p_1_3 := (pb1.cell (p := ⟨wr.heap.size, 2, none⟩) (by show wr.heap.size < W3.heap.size; omega)).trans v2
           have p_1_4 := (pb1.cell (p := ⟨bp, op + q0 * 2, none⟩) (by show bp < W3.heap.size; omega)).trans n00
           have p_1_5 := (pb1.cell (p := ⟨bp, op + q0 * 2 + 1, none⟩) (by show bp < W3.heap.size; omega)).trans n01
           have p_1_6 := (pb1.cell (p := ⟨bp, op + q1 * 2, none⟩) (by show bp < W3.heap.size; omega)).trans n10
           have p_1_7 := (pb1.cell (p := ⟨bp, op + q1 * 2 + 1, none⟩) (by show bp < W3.heap.size; omega)).trans n11
           have p_1_8 := (pb1.cell (p := ⟨bp, op + q2 * 2, none⟩) (by show bp < W3.heap.size; omega)).trans n20
           have p_1_9 := (pb1.cell (p := ⟨bp, op + q2 * 2 + 1, none⟩) (by show bp < W3.heap.size; omega)).trans n21
           have ps1 : W3.heap.size ≤ pw1.heap.size := pb1.size
           have pg1 : Good pw1 := hgd.below pb1))
      have pB : Below W3.heap.size W3 pw1 := ((below_drewN W3 1).trans (pb1.mono (by show W3.heap.size ≤ W3.heap.size; omega)))
      have hbW4 := hbW3.trans (pB.mono hbW3.size)
      have hbl4 := hbl3.trans (pB.mono hbl3.size)
      have b84 := b8.below pB b8.lt
      clear pB pb1 pg1 ps1 p_1_0 p_1_1 p_1_2 p_1_3 p_1_4 p_1_5 p_1_6 p_1_7 p_1_8 p_1_9 u0 v0 v1 v2 n00 n01 n10 n11 n20 n21 hgd b8 hbW3 hbl3
      go_wp2_with fail
      refine (HADA.out pw1 (hg.below hbW4)).mono ?_
      rintro e w5 ⟨_, rfl, rfl, hb5⟩
      have hbW5 := hbW4.trans (hb5.mono hbW4.size)
      have hbl5 := hbl4.trans (hb5.mono hbl4.size)
      have b85 := b84.below hb5 b84.lt
      have v0 := b85.cell 0 rfl
      have v1 := b85.cell 1 rfl
      have v2 := b85.cell 2 rfl
      have o0 := (hbW5.cell (p := ⟨bd, od + q0, none⟩) hbd).trans f0
      have o1 := (hbW5.cell (p := ⟨bd, od + q1, none⟩) hbd).trans f1
      have o2 := (hbW5.cell (p := ⟨bd, od + q2, none⟩) hbd).trans f2
      have hl85 := b85.lt
      have hzz5 := hbW5.size
      have hgd : Good w5.drew := (hg.below hbW5).drewN 1
      clear hb5 hbW4 hbl4 b84 f0 f1 f2
      go_upto_region 7 with fail
      go_region_held3 (fun w' => w'.cell? ⟨wr.heap.size, 0, none⟩ = some (.int .i64 q0) ∧ w'.cell? ⟨wr.heap.size, 1, none⟩ = some (.int .i64 q1) ∧ w'.cell? ⟨wr.heap.size, 2, none⟩ = some (.int .i64 q2) ∧ w'.cell? ⟨bd, od + q0, none⟩ = some (.string (RS h0)) ∧ w'.cell? ⟨bd, od + q1, none⟩ = some (.string (RS h1)) ∧ w'.cell? ⟨bd, od + q2, none⟩ = some (.string (RS h2)))
        (first | exact ⟨v0, v1, v2, o0, o1, o2⟩ | exact ⟨q_1_0, q_1_1, q_1_2, q_1_3, q_1_4, q_1_5⟩ | exact ⟨q_2_0, q_2_1, q_2_2, q_2_3, q_2_4, q_2_5⟩)
        (first
        | (go_at_call 18; refine (HAD2.out _ qg1).mono ?_; rintro e qw2 ⟨_, rfl, rfl, qb2⟩
           have q_2_0 := (qb2.cell (p := ⟨wr.heap.size, 0, none⟩) (by show wr.heap.size < qw1.heap.size; omega)).trans q_1_0
           have q_2_1 := (qb2.cell (p := ⟨wr.heap.size, 1, none⟩) (by show wr.heap.size < qw1.heap.size; omega)).trans q_1_1
           have q_2_2 := (qb2.cell (p := ⟨wr.heap.size, 2, none⟩) (by show wr.heap.size < qw1.heap.size; omega)).trans q_1_2
           have q_2_3 := (qb2.cell (p := ⟨bd, od + q0, none⟩) (by show bd < qw1.heap.size; omega)).trans q_1_3
           have q_2_4 := (qb2.cell (p := ⟨bd, od + q1, none⟩) (by show bd < qw1.heap.size; omega)).trans q_1_4
           have q_2_5 := (qb2.cell (p := ⟨bd, od + q2, none⟩) (by show bd < qw1.heap.size; omega)).trans q_1_5
           have qs2 : qw1.heap.size ≤ qw2.heap.size := qb2.size
           have qg2 : Good qw2 := qg1.below qb2)
        | (go_at_call 18; refine (HAD1.out _ hgd).mono ?_; rintro e qw1 ⟨_, rfl, rfl, qb1⟩
           have q_1_0 := (qb1.cell (p := ⟨wr.heap.size, 0, none⟩) (by show wr.heap.size < w5.heap.size; omega)).trans v0
           have q_1_1 := (qb1.cell (p := ⟨wr.heap.size, 1, none⟩) (by show wr.heap.size < w5.heap.size; omega)).trans v1
           have q_1_2 := (qb1.cell (p := ⟨wr.heap.size, 2, none⟩) (by show wr.heap.size < w5.heap.size; omega)).trans v2
           have q_1_3 := (qb1.cell (p := ⟨bd, od + q0, none⟩) (by show bd < w5.heap.size; omega)).trans o0
           have q_1_4 := (qb1.cell (p := ⟨bd, od + q1, none⟩) (by show bd < w5.heap.size; omega)).trans o1
           have q_1_5 := (qb1.cell (p := ⟨bd, od + q2, none⟩) (by show bd < w5.heap.size; omega)).trans o2
           have qs1 : w5.heap.size ≤ qw1.heap.size := qb1.size
           have qg1 : Good qw1 := hgd.below qb1))
      have qB : Below w5.heap.size w5 qw2 := (((below_drewN w5 1).trans (qb1.mono (by show w5.heap.size ≤ w5.heap.size; omega))).trans (qb2.mono (by show w5.heap.size ≤ qw1.heap.size; omega)))
      have hbW6 := hbW5.trans (qB.mono hbW5.size)
      have hbl6 := hbl5.trans (qB.mono hbl5.size)
      clear qB hbW5 hbl5 v0 v1 v2 o0 o1 o2 b85
      go_wp2_with fail
      refine (HMU1.out qw2 (hg.below hbW6)).mono ?_
      rintro e w7 ⟨_, rfl, rfl, hb7⟩
      have hbW7 := hbW6.trans (hb7.mono hbW6.size)
      have hbl7 := hbl6.trans (hb7.mono hbl6.size)
      clear hb7 hbW6 hbl6
      go_wp2_with fail
      refine (HMU2.out w7 (hg.below hbW7)).mono ?_
      rintro e w8 ⟨_, rfl, rfl, hb8⟩
      have hbW8 := hbW7.trans (hb8.mono hbW7.size)
      have hbl8 := hbl7.trans (hb8.mono hbl7.size)
      clear hb8 hbW7 hbl7
      go_wp2_with fail
      refine (HADS.out w8 (hg.below hbW8)).mono ?_
      rintro e w9 ⟨_, rfl, rfl, hb9⟩
      have hbl9 := hbl8.trans (hb9.mono hbl8.size)
      clear hb9
      go_wp2_with fail
      go_roundw
      case rel => exact ⟨i + 1, an, sn, rfl, rfl, by simp, by omega, HST.out.symm, HAT.out.symm, HZSN, HZAN, hbl9⟩
      case measure =>
        show T.length - ((i : Int) + 1).toNat < T.length - (i : Int).toNat
        omega
    · obtain rfl : i = T.length := by omega
      rw [List.take_length] at HS HA
      have hne : a ≠ 0 := by rw [HA.out]; exact HALL.out
      have HRES : Hid (s / a = mq) := by unfold Hid; rw [HS.out, HA.out]; exact HME.out
      have HDV : Hid (∀ w, Good w → _) := fun w hg => divQ_any s a 20000 (by omega) (by omega) (HSS.out.mono (by omega)) (HSA.out.mono (by omega)) hne w hg
      rw [HRES.out] at HDV
      clear HS HA HSS HSA hne
      go_wp2_with fail
      refine (HDV.out wr (hg.below hbW)).mono ?_
      rintro e w3 ⟨_, rfl, rfl, hb3⟩
      go_wp2_with fail
      go_ret
      exact ⟨_, rfl, rfl, hbW.trans (hb3.mono hbW.size)⟩

end Go.Proofs.YtjfjkiibmfgplaaGreatDoor
