/- The walks over klippelaw12.Orient, turn, corners, inside. -/
import Derived.Test.YtdhcliekejiegaaGreatDoorM10
namespace Go.Proofs.YtdhcliekejiegaaGreatDoor
open Go.RowKit Go.Lib

set_option maxHeartbeats 4000000 in
set_option maxRecDepth 100000 in
theorem lorient_any (a b c : PtQ) (k : Nat) (hk : 0 < k) (hk2 : k ≤ 2000) (ha : SzP k a) (hb : SzP k b) (hc : SzP k c) (w : World) (hg : Good w) :
    Calls Tryz.prog 62 #[VP a, VP b, VP c] w (Ret (fun r _ => r = .string (RS (areaQ a b c))) w) := by
  obtain ⟨W, hW, ⟨a0, a1⟩, ⟨b0, b1⟩, ⟨c0, c1⟩, hbW, hsz⟩ := three_boxes w a b c 59
  have hgW := hg.below hbW
  obtain ⟨ax, ay⟩ := a
  obtain ⟨bx, bY⟩ := b
  obtain ⟨cx, cy⟩ := c
  unfold VP areaQ
  dsimp only [SzP] at *
  have HA := Lib.hid ha
  have HB := Lib.hid hb
  have HC := Lib.hid hc
  have HW := Lib.hid hW
  clear hW ha hb hc
  go_enter Tryz.func62, Tryz.ntmps62
  have hgd : Good W.drew := hgW.drewN 1
  have HS1 : Hid (Sz (2 * k + 1) (bx - ax)) := (HB.out.1.sub HA.out.1).mono (by omega)
  have HS2 : Hid (Sz (2 * k + 1) (cy - ay)) := (HC.out.2.sub HA.out.2).mono (by omega)
  have HS3 : Hid (Sz (2 * k + 1) (bY - ay)) := (HB.out.2.sub HA.out.2).mono (by omega)
  have HS4 : Hid (Sz (2 * k + 1) (cx - ax)) := (HC.out.1.sub HA.out.1).mono (by omega)
  have HM1 : Hid (Sz (4 * k + 2) ((bx - ax) * (cy - ay))) := (HS1.out.mul HS2.out).mono (by omega)
  have HM2 : Hid (Sz (4 * k + 2) ((bY - ay) * (cx - ax))) := (HS3.out.mul HS4.out).mono (by omega)
  go_upto_region 1 with fail
  rw [← HW.out]
  go_region_held3 (fun w' => w'.cell? ⟨w.heap.size, 0, none⟩ = some (.string (RS ax)) ∧ w'.cell? ⟨w.heap.size, 1, none⟩ = some (.string (RS ay)) ∧ w'.cell? ⟨w.heap.size + 1, 0, none⟩ = some (.string (RS bx)) ∧ w'.cell? ⟨w.heap.size + 1, 1, none⟩ = some (.string (RS bY)) ∧ w'.cell? ⟨w.heap.size + 2, 0, none⟩ = some (.string (RS cx)) ∧ w'.cell? ⟨w.heap.size + 2, 1, none⟩ = some (.string (RS cy)))
    (first | exact ⟨a0, a1, b0, b1, c0, c1⟩ | exact ⟨p_1_0, p_1_1, p_1_2, p_1_3, p_1_4, p_1_5⟩ | exact ⟨p_2_0, p_2_1, p_2_2, p_2_3, p_2_4, p_2_5⟩ | exact ⟨p_3_0, p_3_1, p_3_2, p_3_3, p_3_4, p_3_5⟩ | exact ⟨p_4_0, p_4_1, p_4_2, p_4_3, p_4_4, p_4_5⟩ | exact ⟨p_5_0, p_5_1, p_5_2, p_5_3, p_5_4, p_5_5⟩ | exact ⟨p_6_0, p_6_1, p_6_2, p_6_3, p_6_4, p_6_5⟩ | exact ⟨p_7_0, p_7_1, p_7_2, p_7_3, p_7_4, p_7_5⟩)
    (first
    | (go_at_call 102; refine (ratSub_any ((bx - ax) * (cy - ay)) ((bY - ay) * (cx - ax)) (4 * k + 2) (by omega) (by omega) HM1.out HM2.out _ pg6).mono ?_; rintro e pw7 ⟨_, rfl, rfl, pb7⟩
       have p_7_0 := (pb7.cell (p := ⟨w.heap.size, 0, none⟩) (by show w.heap.size < pw6.heap.size; omega)).trans p_6_0
       have p_7_1 := (pb7.cell (p := ⟨w.heap.size, 1, none⟩) (by show w.heap.size < pw6.heap.size; omega)).trans p_6_1
       have p_7_2 := (pb7.cell (p := ⟨w.heap.size + 1, 0, none⟩) (by show w.heap.size + 1 < pw6.heap.size; omega)).trans p_6_2
       have p_7_3 := (pb7.cell (p := ⟨w.heap.size + 1, 1, none⟩) (by show w.heap.size + 1 < pw6.heap.size; omega)).trans p_6_3
       have p_7_4 := (pb7.cell (p := ⟨w.heap.size + 2, 0, none⟩) (by show w.heap.size + 2 < pw6.heap.size; omega)).trans p_6_4
       have p_7_5 := (pb7.cell (p := ⟨w.heap.size + 2, 1, none⟩) (by show w.heap.size + 2 < pw6.heap.size; omega)).trans p_6_5
       have ps7 : pw6.heap.size ≤ pw7.heap.size := pb7.size
       have pg7 : Good pw7 := pg6.below pb7)
    | (go_at_call 88; refine (ratMul_any (bY - ay) (cx - ax) (2 * k + 1) (by omega) (by omega) HS3.out HS4.out _ pg5).mono ?_; rintro e pw6 ⟨_, rfl, rfl, pb6⟩
       have p_6_0 := (pb6.cell (p := ⟨w.heap.size, 0, none⟩) (by show w.heap.size < pw5.heap.size; omega)).trans p_5_0
       have p_6_1 := (pb6.cell (p := ⟨w.heap.size, 1, none⟩) (by show w.heap.size < pw5.heap.size; omega)).trans p_5_1
       have p_6_2 := (pb6.cell (p := ⟨w.heap.size + 1, 0, none⟩) (by show w.heap.size + 1 < pw5.heap.size; omega)).trans p_5_2
       have p_6_3 := (pb6.cell (p := ⟨w.heap.size + 1, 1, none⟩) (by show w.heap.size + 1 < pw5.heap.size; omega)).trans p_5_3
       have p_6_4 := (pb6.cell (p := ⟨w.heap.size + 2, 0, none⟩) (by show w.heap.size + 2 < pw5.heap.size; omega)).trans p_5_4
       have p_6_5 := (pb6.cell (p := ⟨w.heap.size + 2, 1, none⟩) (by show w.heap.size + 2 < pw5.heap.size; omega)).trans p_5_5
       have ps6 : pw5.heap.size ≤ pw6.heap.size := pb6.size
       have pg6 : Good pw6 := pg5.below pb6)
    | (go_at_call 102; refine (ratSub_any cx ax k hk (by omega) HC.out.1 HA.out.1 _ pg4).mono ?_; rintro e pw5 ⟨_, rfl, rfl, pb5⟩
       have p_5_0 := (pb5.cell (p := ⟨w.heap.size, 0, none⟩) (by show w.heap.size < pw4.heap.size; omega)).trans p_4_0
       have p_5_1 := (pb5.cell (p := ⟨w.heap.size, 1, none⟩) (by show w.heap.size < pw4.heap.size; omega)).trans p_4_1
       have p_5_2 := (pb5.cell (p := ⟨w.heap.size + 1, 0, none⟩) (by show w.heap.size + 1 < pw4.heap.size; omega)).trans p_4_2
       have p_5_3 := (pb5.cell (p := ⟨w.heap.size + 1, 1, none⟩) (by show w.heap.size + 1 < pw4.heap.size; omega)).trans p_4_3
       have p_5_4 := (pb5.cell (p := ⟨w.heap.size + 2, 0, none⟩) (by show w.heap.size + 2 < pw4.heap.size; omega)).trans p_4_4
       have p_5_5 := (pb5.cell (p := ⟨w.heap.size + 2, 1, none⟩) (by show w.heap.size + 2 < pw4.heap.size; omega)).trans p_4_5
       have ps5 : pw4.heap.size ≤ pw5.heap.size := pb5.size
       have pg5 : Good pw5 := pg4.below pb5)
    | (go_at_call 102; refine (ratSub_any bY ay k hk (by omega) HB.out.2 HA.out.2 _ pg3).mono ?_; rintro e pw4 ⟨_, rfl, rfl, pb4⟩
       have p_4_0 := (pb4.cell (p := ⟨w.heap.size, 0, none⟩) (by show w.heap.size < pw3.heap.size; omega)).trans p_3_0
       have p_4_1 := (pb4.cell (p := ⟨w.heap.size, 1, none⟩) (by show w.heap.size < pw3.heap.size; omega)).trans p_3_1
       have p_4_2 := (pb4.cell (p := ⟨w.heap.size + 1, 0, none⟩) (by show w.heap.size + 1 < pw3.heap.size; omega)).trans p_3_2
       have p_4_3 := (pb4.cell (p := ⟨w.heap.size + 1, 1, none⟩) (by show w.heap.size + 1 < pw3.heap.size; omega)).trans p_3_3
       have p_4_4 := (pb4.cell (p := ⟨w.heap.size + 2, 0, none⟩) (by show w.heap.size + 2 < pw3.heap.size; omega)).trans p_3_4
       have p_4_5 := (pb4.cell (p := ⟨w.heap.size + 2, 1, none⟩) (by show w.heap.size + 2 < pw3.heap.size; omega)).trans p_3_5
       have ps4 : pw3.heap.size ≤ pw4.heap.size := pb4.size
       have pg4 : Good pw4 := pg3.below pb4)
    | (go_at_call 88; refine (ratMul_any (bx - ax) (cy - ay) (2 * k + 1) (by omega) (by omega) HS1.out HS2.out _ pg2).mono ?_; rintro e pw3 ⟨_, rfl, rfl, pb3⟩
       have p_3_0 := (pb3.cell (p := ⟨w.heap.size, 0, none⟩) (by show w.heap.size < pw2.heap.size; omega)).trans p_2_0
       have p_3_1 := (pb3.cell (p := ⟨w.heap.size, 1, none⟩) (by show w.heap.size < pw2.heap.size; omega)).trans p_2_1
       have p_3_2 := (pb3.cell (p := ⟨w.heap.size + 1, 0, none⟩) (by show w.heap.size + 1 < pw2.heap.size; omega)).trans p_2_2
       have p_3_3 := (pb3.cell (p := ⟨w.heap.size + 1, 1, none⟩) (by show w.heap.size + 1 < pw2.heap.size; omega)).trans p_2_3
       have p_3_4 := (pb3.cell (p := ⟨w.heap.size + 2, 0, none⟩) (by show w.heap.size + 2 < pw2.heap.size; omega)).trans p_2_4
       have p_3_5 := (pb3.cell (p := ⟨w.heap.size + 2, 1, none⟩) (by show w.heap.size + 2 < pw2.heap.size; omega)).trans p_2_5
       have ps3 : pw2.heap.size ≤ pw3.heap.size := pb3.size
       have pg3 : Good pw3 := pg2.below pb3)
    | (go_at_call 102; refine (ratSub_any cy ay k hk (by omega) HC.out.2 HA.out.2 _ pg1).mono ?_; rintro e pw2 ⟨_, rfl, rfl, pb2⟩
       have p_2_0 := (pb2.cell (p := ⟨w.heap.size, 0, none⟩) (by show w.heap.size < pw1.heap.size; omega)).trans p_1_0
       have p_2_1 := (pb2.cell (p := ⟨w.heap.size, 1, none⟩) (by show w.heap.size < pw1.heap.size; omega)).trans p_1_1
       have p_2_2 := (pb2.cell (p := ⟨w.heap.size + 1, 0, none⟩) (by show w.heap.size + 1 < pw1.heap.size; omega)).trans p_1_2
       have p_2_3 := (pb2.cell (p := ⟨w.heap.size + 1, 1, none⟩) (by show w.heap.size + 1 < pw1.heap.size; omega)).trans p_1_3
       have p_2_4 := (pb2.cell (p := ⟨w.heap.size + 2, 0, none⟩) (by show w.heap.size + 2 < pw1.heap.size; omega)).trans p_1_4
       have p_2_5 := (pb2.cell (p := ⟨w.heap.size + 2, 1, none⟩) (by show w.heap.size + 2 < pw1.heap.size; omega)).trans p_1_5
       have ps2 : pw1.heap.size ≤ pw2.heap.size := pb2.size
       have pg2 : Good pw2 := pg1.below pb2)
    | (go_at_call 102; refine (ratSub_any bx ax k hk (by omega) HB.out.1 HA.out.1 _ hgd).mono ?_; rintro e pw1 ⟨_, rfl, rfl, pb1⟩
       have p_1_0 := (pb1.cell (p := ⟨w.heap.size, 0, none⟩) (by show w.heap.size < W.heap.size; omega)).trans a0
       have p_1_1 := (pb1.cell (p := ⟨w.heap.size, 1, none⟩) (by show w.heap.size < W.heap.size; omega)).trans a1
       have p_1_2 := (pb1.cell (p := ⟨w.heap.size + 1, 0, none⟩) (by show w.heap.size + 1 < W.heap.size; omega)).trans b0
       have p_1_3 := (pb1.cell (p := ⟨w.heap.size + 1, 1, none⟩) (by show w.heap.size + 1 < W.heap.size; omega)).trans b1
       have p_1_4 := (pb1.cell (p := ⟨w.heap.size + 2, 0, none⟩) (by show w.heap.size + 2 < W.heap.size; omega)).trans c0
       have p_1_5 := (pb1.cell (p := ⟨w.heap.size + 2, 1, none⟩) (by show w.heap.size + 2 < W.heap.size; omega)).trans c1
       have ps1 : W.heap.size ≤ pw1.heap.size := pb1.size
       have pg1 : Good pw1 := hgd.below pb1))
  have pB : Below W.heap.size W pw7 := ((((((((below_drewN W 1).trans (pb1.mono (by show W.heap.size ≤ W.heap.size; omega))).trans (pb2.mono (by show W.heap.size ≤ pw1.heap.size; omega))).trans (pb3.mono (by show W.heap.size ≤ pw2.heap.size; omega))).trans (pb4.mono (by show W.heap.size ≤ pw3.heap.size; omega))).trans (pb5.mono (by show W.heap.size ≤ pw4.heap.size; omega))).trans (pb6.mono (by show W.heap.size ≤ pw5.heap.size; omega))).trans (pb7.mono (by show W.heap.size ≤ pw6.heap.size; omega)))
  go_wp2_with fail
  go_ret
  exact ⟨_, rfl, rfl, hbW.trans (pB.mono hbW.size)⟩

set_option maxHeartbeats 1000000 in
theorem lturn_any (a b c : PtQ) (k : Nat) (hk : 0 < k) (hk2 : k ≤ 2000) (ha : SzP k a) (hb : SzP k b) (hc : SzP k c) (w : World) (hg : Good w) :
    Calls Tryz.prog 60 #[VP a, VP b, VP c] w (Ret (fun r _ => r = .int .i64 (turnZ a b c)) w) := by
  obtain ⟨W, hW, ⟨a0, a1⟩, ⟨b0, b1⟩, ⟨c0, c1⟩, hbW, hsz⟩ := three_boxes w a b c 59
  have hgW := hg.below hbW
  have HA := Lib.hid ha
  have HB := Lib.hid hb
  have HC := Lib.hid hc
  have HW := Lib.hid hW
  have HT : Hid ((areaQ a b c).num.sign = turnZ a b c) := rfl
  clear hW ha hb hc
  have HAR : Hid (Calls Tryz.prog 62 #[.agg #[.string (RS a.1), .string (RS a.2)], .agg #[.string (RS b.1), .string (RS b.2)], .agg #[.string (RS c.1), .string (RS c.2)]] W (Ret (fun r _ => r = .string (RS (areaQ a b c))) W)) := lorient_any a b c k hk hk2 HA.out HB.out HC.out W hgW
  unfold VP
  obtain ⟨ax, ay⟩ := a
  obtain ⟨bx, bY⟩ := b
  obtain ⟨cx, cy⟩ := c
  dsimp only at *
  go_enter Tryz.func60, Tryz.ntmps60
  go_upto_region 1 with fail
  rw [← HW.out]
  go_wp2_with fail
  refine HAR.out.mono ?_
  rintro e w1 ⟨_, rfl, rfl, hb1⟩
  go_wp2_with fail
  refine ((ratSign_any _ _).mono fun _ _ h => h.ret).mono ?_
  rintro e w2 ⟨_, rfl, rfl, hb2⟩
  rw [HT.out]
  go_wp2_with fail
  go_ret
  exact ⟨_, rfl, rfl, (hbW.trans (hb1.mono hbW.size)).trans (hb2.mono (by have := hbW.size; have := hb1.size; omega))⟩

end Go.Proofs.YtdhcliekejiegaaGreatDoor
