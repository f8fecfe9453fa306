import Derived.Test.YtegiemcnfbchoaaGreatDoorF51
/- The walks over klipperef09.Area, Centroid. The walks over klipperef05.Toward, klippelaw13.Part. -/
set_option maxHeartbeats 4000000
set_option maxRecDepth 100000
namespace Go.Proofs.YtegiemcnfbchoaaGreatDoor
open Go.RowKit Go.Lib
theorem ptI_ptA (l : List PtQ) (i : Nat) : ptI l (i : Int) = ptA l i := rfl
theorem ptA_sz {l : List PtQ} {k : Nat} (hs : ∀ p ∈ l, SzP k p) (hk : 0 < k) (i : Nat) : SzP k (ptA l i) := by rw [<- ptI_ptA]; exact ptF_sz hs hk _
theorem lfanA_Sz {l : List PtQ} {k : Nat} (hs : ∀ p ∈ l, SzP k p) (hk : 0 < k) : ∀ n, Sz (n * (8 * k + 6) + 1) (lfanA l n)
 | 0 => Sz.zero _ (by omega)
 | n + 1 => by
   show Sz _ (lfanA l n + areaQ (ptA l 0) (ptA l (n + 1)) (ptA l (n + 2)));exact ((lfanA_Sz hs hk n).add (areaQ_Sz (ptA_sz hs hk 0) (ptA_sz hs hk (n + 1)) (ptA_sz hs hk (n + 2)))).mono (by rw [Nat.add_mul]; omega)
theorem lfanX_Sz {l : List PtQ} {k : Nat} (hs : ∀ p ∈ l, SzP k p) (hk : 0 < k) : ∀ n, Sz (n * (11 * k + 10) + 1) (lfanX l n)
 | 0 => Sz.zero _ (by omega)
 | n + 1 => by
   show Sz _ (lfanX l n + areaQ (ptA l 0) (ptA l (n + 1)) (ptA l (n + 2)) * ((ptA l 0).1 + ((ptA l (n + 1)).1 + (ptA l (n + 2)).1)));exact ((lfanX_Sz hs hk n).add ((areaQ_Sz (ptA_sz hs hk 0) (ptA_sz hs hk (n + 1)) (ptA_sz hs hk (n + 2))).mul ((ptA_sz hs hk 0).1.add ((ptA_sz hs hk (n + 1)).1.add (ptA_sz hs hk (n + 2)).1)))).mono (by rw [Nat.add_mul]; omega)
theorem lfanY_Sz {l : List PtQ} {k : Nat} (hs : ∀ p ∈ l, SzP k p) (hk : 0 < k) : ∀ n, Sz (n * (11 * k + 10) + 1) (lfanY l n)
 | 0 => Sz.zero _ (by omega)
 | n + 1 => by
   show Sz _ (lfanY l n + areaQ (ptA l 0) (ptA l (n + 1)) (ptA l (n + 2)) * ((ptA l 0).2 + ((ptA l (n + 1)).2 + (ptA l (n + 2)).2)));exact ((lfanY_Sz hs hk n).add ((areaQ_Sz (ptA_sz hs hk 0) (ptA_sz hs hk (n + 1)) (ptA_sz hs hk (n + 2))).mul ((ptA_sz hs hk 0).2.add ((ptA_sz hs hk (n + 1)).2.add (ptA_sz hs hk (n + 2)).2)))).mono (by rw [Nat.add_mul]; omega)
theorem mul_lt8 {n a : Nat} (h : n <= 8) : n * a <= 8 * a := Nat.mul_le_mul_right _ h
theorem larea09_any (w : World) (v : Value) (l : List PtQ) (k : Nat) (hk : 0 < k) (hk2 : k <= 200) (hl : 3 <= l.length) (hl2 : l.length <= 8) (hs : ∀ p ∈ l, SzP k p) (hv : RdP w v (strP l)) (hg : Good w) :
 Calls Tryz.prog 56 #[v] w (Ret (fun r _ => r = .string (RS (lareaP l))) w) := by
 obtain ⟨b, o, c, rfl, hb, hc⟩ := hv.cells (by omega);have HCC := hid hc;have HAR : Hid (∀ (i j : Nat) (w : World), Good w -> _) := fun i j w hg => area05_any (ptA l 0) (ptA l i) (ptA l j) k hk (by omega) (ptA_sz hs hk 0) (ptA_sz hs hk i) (ptA_sz hs hk j) w hg
 have HAD : Hid (∀ (n i j : Nat), n <= 8 -> ∀ (w : World), Good w -> _) := fun n i j hn w hg => addQ_any (lfanA l n) (areaQ (ptA l 0) (ptA l i) (ptA l j)) (8 * (8 * k + 6) + 1) (by omega) (by omega) ((lfanA_Sz hs hk n).mono (Nat.add_le_add_right (mul_lt8 hn) 1)) ((areaQ_Sz (ptA_sz hs hk 0) (ptA_sz hs hk i) (ptA_sz hs hk j)).mono (by omega)) w hg
 have HNX : Hid (∀ n : Nat, lfanA l (n + 1) = lfanA l n + areaQ (ptA l 0) (ptA l (n + 1)) (ptA l (n + 2))) := fun n => rfl;unfold VP at HAR;unfold lareaP;have hL0 : lfanA l 0 = 0 := rfl;have HP0 : Hid (ptI l (0 : Nat) = ptA l 0) := rfl;have HPI : Hid (∀ i : Nat, ptI l (i : Int) = ptA l i) := fun i => rfl;generalize lfanA l = LA at *;clear hs hc hv;go_enter Tryz.func56, Tryz.ntmps56;go_wp2_with fail;go_loopw [3, 4] (fun t3 t4 wr => ∃ n : Nat, t4 = .int .i64 ((n + 1 : Nat) : Int) /\ t3 = .string (RS (LA n)) /\ n + 2 <= l.length /\ Below w.heap.size w wr) (fun _ t4 _ => l.length - (RowKit.intOf t4).toNat)
 case atStart => exact ⟨0, rfl, by rw [hL0, RS_zero], by omega, Below.refl _ _⟩
 case round =>
  obtain ⟨n, rfl, rfl, hnl, hbr⟩ := hrel;obtain ⟨i, hi⟩ : ∃ i : Nat, i = n + 1 := ⟨_, rfl⟩;obtain ⟨j, hj⟩ : ∃ j : Nat, j = n + 2 := ⟨_, rfl⟩;rw [<- hi];have hw1 : IntKind.i64.wrap ((i : Int) + 1) = (j : Int) := by rw [IntWalk.i64_in _ (by omega)]; omega
  have hgr := hg.below hbr;have hbrs : b < wr.heap.size := Nat.lt_of_lt_of_le hb hbr.size;rcases Nat.lt_or_ge j l.length with h | h
  ·have hjz : (j : Int) < (l.length : Int) := by omega
   have hiz : (i : Int) < (l.length : Int) := by omega
   have h0z : (0 : Int) < (l.length : Int) := by omega
   have h0n : 0 < l.length := by omega
   have HS1 := hid (HNX.out n);rw [<- hi, <- hj] at HS1;have HA1 := hid fun w hg => HAR.out i j w hg;have HD1 := hid fun w hg => HAD.out n i j (by omega) w hg
   obtain ⟨x0, x1⟩ := HCC.out 0 (by omega);obtain ⟨y0, y1⟩ := HCC.out i (by omega);obtain ⟨z0, z1⟩ := HCC.out j h;rw [HPI.out 0] at x0 x1;rw [HPI.out i] at y0 y1;rw [HPI.out j] at z0 z1;have x0 := zcq hbr hb x0;have x1 := zcq hbr hb x1;have y0 := zcq hbr hb y0;have y1 := zcq hbr hb y1;have z0 := zcq hbr hb z0;have z1 := zcq hbr hb z1;simp only [Nat.zero_mul, Nat.add_zero] at x0 x1;generalize areaQ (ptA l 0) (ptA l i) (ptA l j) = ar at *;generalize ptA l 0 = p at *;generalize ptA l i = q at *;generalize ptA l j = r at *;have hgd : Good wr.drew := hgr.drewN 1;have hl8 := hl2;have HIN := hid hi;have HJN := hid hj;clear hi hj;go_wp2_with fail;go_region_held3 (fun w' => w'.cell? ⟨b, o, none⟩ = some (.string (RS p.1)) /\ w'.cell? ⟨b, o + 1, none⟩ = some (.string (RS p.2)) /\ w'.cell? ⟨b, o + i * 2, none⟩ = some (.string (RS q.1)) /\ w'.cell? ⟨b, o + i * 2 + 1, none⟩ = some (.string (RS q.2)) /\ w'.cell? ⟨b, o + j * 2, none⟩ = some (.string (RS r.1)) /\ w'.cell? ⟨b, o + j * 2 + 1, none⟩ = some (.string (RS r.2)))
    (first | exact ⟨x0, x1, y0, y1, z0, z1⟩ | exact ⟨p_1_0, p_1_1, p_1_2, p_1_3, p_1_4, p_1_5⟩ | exact ⟨p_2_0, p_2_1, p_2_2, p_2_3, p_2_4, p_2_5⟩)
    (first
    | (go_at_call 22; refine (HD1.out _ pg1).mono ?_; rintro e pw2 ⟨_, rfl, rfl, pb2⟩
       have p_2_0 := zct pb2 p_1_0;have p_2_1 := zct pb2 p_1_1;have p_2_2 := zct pb2 p_1_2;have p_2_3 := zct pb2 p_1_3;have p_2_4 := zct pb2 p_1_4;have p_2_5 := zct pb2 p_1_5;have ps2 := pb2.size;have pg2 := pg1.below pb2)
    | (go_at_call 25; refine (HA1.out _ hgd).mono ?_; rintro e pw1 ⟨_, rfl, rfl, pb1⟩
       have p_1_0 := zct pb1 x0;have p_1_1 := zct pb1 x1;have p_1_2 := zct pb1 y0;have p_1_3 := zct pb1 y1;have p_1_4 := zct pb1 z0;have p_1_5 := zct pb1 z1;have ps1 : wr.heap.size <= pw1.heap.size := pb1.size;have pg1 := hgd.below pb1))
   have pB : Below wr.heap.size wr pw2 := zbt (zbt (below_drewN wr 1) pb1) pb2;have hbq := hbr.trans (pB.mono hbr.size);clear x0 x1 y0 y1 z0 z1 hgd;go_wp2_with fail;go_roundw
   case rel => exact ⟨n + 1, by rw [HJN.out], by rw [<- HIN.out, HS1.out], by have := HJN.out; omega, hbq⟩
   case measure => have := HIN.out; have := HJN.out; simp [RowKit.intOf]; omega
  ·have hjz : ¬ (j : Int) < (l.length : Int) := by omega
   have HN : Hid (n = l.length - 2) := by unfold Hid; omega
   rw [HN.out];clear hi hj;go_wp2_with fail;go_ret;exact ⟨_, rfl, rfl, hbr⟩
theorem lcent09_any (w : World) (v : Value) (l : List PtQ) (k : Nat) (hk : 0 < k) (hk2 : k <= 200) (hl : 3 <= l.length) (hl2 : l.length <= 8) (hs : ∀ p ∈ l, SzP k p) (hv : RdP w v (strP l)) (h0 : lareaP l ≠ 0) (hg : Good w) :
 Calls Tryz.prog 57 #[v] w (Ret (fun r _ => r = .agg #[.string (RS (lcent l).1), .string (RS (lcent l).2)]) w) := by
 have HAL : Hid (∀ w', Below w.heap.size w w' -> Good w' -> _) := fun w' hb hg => larea09_any w' v l k hk hk2 hl hl2 hs (RdC.below hv hb) hg;obtain ⟨b, o, c, rfl, hb, hc⟩ := hv.cells (by omega);have HCC := hid hc;have zA : ∀ i j, Sz (8 * k + 5) (areaQ (ptA l 0) (ptA l i) (ptA l j)) := fun i j => areaQ_Sz (ptA_sz hs hk 0) (ptA_sz hs hk i) (ptA_sz hs hk j);have HAR : Hid (∀ (i j : Nat) (w : World), Good w -> _) := fun i j w hg => area05_any (ptA l 0) (ptA l i) (ptA l j) k hk (by omega) (ptA_sz hs hk 0) (ptA_sz hs hk i) (ptA_sz hs hk j) w hg
 have HAX1 : Hid (∀ (i j : Nat) (w : World), Good w -> _) := fun i j w hg => addQ_any (ptA l i).1 (ptA l j).1 k hk (by omega) (ptA_sz hs hk i).1 (ptA_sz hs hk j).1 w hg
 have HAX2 : Hid (∀ (i j : Nat) (w : World), Good w -> _) := fun i j w hg => addQ_any (ptA l 0).1 ((ptA l i).1 + (ptA l j).1) (2 * k + 1) (by omega) (by omega) ((ptA_sz hs hk 0).1.mono (by omega)) (((ptA_sz hs hk i).1.add (ptA_sz hs hk j).1).mono (by omega)) w hg
 have zmX : ∀ i j, Sz (3 * k + 2) ((ptA l 0).1 + ((ptA l i).1 + (ptA l j).1)) := fun i j => ((ptA_sz hs hk 0).1.add ((ptA_sz hs hk i).1.add (ptA_sz hs hk j).1)).mono (by omega)
 have HAX3 : Hid (∀ (i j : Nat) (w : World), Good w -> _) := fun i j w hg => mulQ_any (areaQ (ptA l 0) (ptA l i) (ptA l j)) ((ptA l 0).1 + ((ptA l i).1 + (ptA l j).1)) (8 * k + 5) (by omega) (by omega) (zA i j) ((zmX i j).mono (by omega)) w hg
 have HAX4 : Hid (∀ (n i j : Nat), n <= 8 -> ∀ (w : World), Good w -> _) := fun n i j hn w hg => addQ_any (lfanX l n) (areaQ (ptA l 0) (ptA l i) (ptA l j) * ((ptA l 0).1 + ((ptA l i).1 + (ptA l j).1))) (8 * (11 * k + 10) + 1) (by omega) (by omega) ((lfanX_Sz hs hk n).mono (Nat.add_le_add_right (mul_lt8 hn) 1)) (((zA i j).mul (zmX i j)).mono (by omega)) w hg
 have HAY1 : Hid (∀ (i j : Nat) (w : World), Good w -> _) := fun i j w hg => addQ_any (ptA l i).2 (ptA l j).2 k hk (by omega) (ptA_sz hs hk i).2 (ptA_sz hs hk j).2 w hg
 have HAY2 : Hid (∀ (i j : Nat) (w : World), Good w -> _) := fun i j w hg => addQ_any (ptA l 0).2 ((ptA l i).2 + (ptA l j).2) (2 * k + 1) (by omega) (by omega) ((ptA_sz hs hk 0).2.mono (by omega)) (((ptA_sz hs hk i).2.add (ptA_sz hs hk j).2).mono (by omega)) w hg
 have zmY : ∀ i j, Sz (3 * k + 2) ((ptA l 0).2 + ((ptA l i).2 + (ptA l j).2)) := fun i j => ((ptA_sz hs hk 0).2.add ((ptA_sz hs hk i).2.add (ptA_sz hs hk j).2)).mono (by omega)
 have HAY3 : Hid (∀ (i j : Nat) (w : World), Good w -> _) := fun i j w hg => mulQ_any (areaQ (ptA l 0) (ptA l i) (ptA l j)) ((ptA l 0).2 + ((ptA l i).2 + (ptA l j).2)) (8 * k + 5) (by omega) (by omega) (zA i j) ((zmY i j).mono (by omega)) w hg
 have HAY4 : Hid (∀ (n i j : Nat), n <= 8 -> ∀ (w : World), Good w -> _) := fun n i j hn w hg => addQ_any (lfanY l n) (areaQ (ptA l 0) (ptA l i) (ptA l j) * ((ptA l 0).2 + ((ptA l i).2 + (ptA l j).2))) (8 * (11 * k + 10) + 1) (by omega) (by omega) ((lfanY_Sz hs hk n).mono (Nat.add_le_add_right (mul_lt8 hn) 1)) (((zA i j).mul (zmY i j)).mono (by omega)) w hg
 have zS : Sz (8 * (8 * k + 6) + 1) (lareaP l) := (lfanA_Sz hs hk (l.length - 2)).mono (Nat.add_le_add_right (mul_lt8 (by omega)) 1);have HM3 := hid fun w hg => mulQ_any 3 (lareaP l) (8 * (8 * k + 6) + 1) (by omega) (by omega) ((show Sz 1 3 from ⟨by decide +kernel, by decide +kernel⟩).mono (by omega)) zS w hg
 have hne : 3 * lareaP l ≠ 0 := by intro e; apply h0; grind
 have zK : Sz (8 * (8 * k + 6) + 3) (3 * lareaP l) := ((show Sz 1 3 from ⟨by decide +kernel, by decide +kernel⟩).mul zS).mono (by omega);have HNX : Hid (∀ n : Nat, lfanX l (n + 1) = lfanX l n + areaQ (ptA l 0) (ptA l (n + 1)) (ptA l (n + 2)) * ((ptA l 0).1 + ((ptA l (n + 1)).1 + (ptA l (n + 2)).1))) := fun n => rfl;have HNY : Hid (∀ n : Nat, lfanY l (n + 1) = lfanY l n + areaQ (ptA l 0) (ptA l (n + 1)) (ptA l (n + 2)) * ((ptA l 0).2 + ((ptA l (n + 1)).2 + (ptA l (n + 2)).2))) := fun n => rfl;unfold VP at HAR;unfold lcent;dsimp only;have HDX := hid fun w hg => divQ_any (lfanX l (l.length - 2)) (3 * lareaP l) (8 * (11 * k + 10) + 3) (by omega) (by omega) ((lfanX_Sz hs hk (l.length - 2)).mono (Nat.le_trans (Nat.add_le_add_right (mul_lt8 (by omega)) 1) (by omega))) (zK.mono (by omega)) hne w hg
 have HDY := hid fun w hg => divQ_any (lfanY l (l.length - 2)) (3 * lareaP l) (8 * (11 * k + 10) + 3) (by omega) (by omega) ((lfanY_Sz hs hk (l.length - 2)).mono (Nat.le_trans (Nat.add_le_add_right (mul_lt8 (by omega)) 1) (by omega))) (zK.mono (by omega)) hne w hg
 have hX0 : lfanX l 0 = 0 := rfl;have hY0 : lfanY l 0 = 0 := rfl;have HPI : Hid (∀ i : Nat, ptI l (i : Int) = ptA l i) := fun i => rfl;rw [RS_three] at HM3;generalize lfanX l = LX at *;generalize lfanY l = LY at *;generalize 3 * lareaP l = lk at *;generalize lareaP l = la at *;clear hs hc hv zS zK hne h0;go_enter Tryz.func57, Tryz.ntmps57;go_wp2_with fail;obtain ⟨W, hW⟩ : ∃ W, W = w.alloc (.cells #[.string ⟨#[]⟩, .string ⟨#[]⟩] 33) := ⟨_, rfl⟩;have hB : Below w.heap.size w W := by rw [hW]; exact zal _ _
 have bR : BoxN W w.heap.size 33 [.string ⟨#[]⟩, .string ⟨#[]⟩] := by rw [hW]; exact BoxN.new _ _ _ _ rfl
 rw [<- hW];clear hW;have hbW : b < W.heap.size := Nat.lt_of_lt_of_le hb hB.size;go_loopw [3, 4, 5] (fun t3 t4 t5 wr => ∃ n : Nat, t5 = .int .i64 ((n + 1 : Nat) : Int) /\ t3 = .string (RS (LX n)) /\ t4 = .string (RS (LY n)) /\ n + 2 <= l.length /\ Below W.heap.size W wr) (fun _ _ t5 _ => l.length - (RowKit.intOf t5).toNat)
 case atStart => exact ⟨0, rfl, by rw [hX0, RS_zero], by rw [hY0, RS_zero], by omega, Below.refl _ _⟩
 case round =>
  obtain ⟨n, rfl, rfl, rfl, hnl, hbr⟩ := hrel;obtain ⟨i, hi⟩ : ∃ i : Nat, i = n + 1 := ⟨_, rfl⟩;obtain ⟨j, hj⟩ : ∃ j : Nat, j = n + 2 := ⟨_, rfl⟩;rw [<- hi];have hw1 : IntKind.i64.wrap ((i : Int) + 1) = (j : Int) := by rw [IntWalk.i64_in _ (by omega)]; omega
  have hBr := hB.trans (hbr.mono hB.size);have hgr := hg.below hBr;have hbrs : b < wr.heap.size := Nat.lt_of_lt_of_le hb hBr.size;rcases Nat.lt_or_ge j l.length with h | h
  ·have hjz : (j : Int) < (l.length : Int) := by omega
   have hiz : (i : Int) < (l.length : Int) := by omega
   have h0z : (0 : Int) < (l.length : Int) := by omega
   have h0n : 0 < l.length := by omega
   have HSX := hid (HNX.out n);have HSY := hid (HNY.out n);rw [<- hi, <- hj] at HSX HSY;have HA1 := hid fun w hg => HAR.out i j w hg;have HX1 := hid fun w hg => HAX1.out i j w hg;have HX2 := hid fun w hg => HAX2.out i j w hg;have HX3 := hid fun w hg => HAX3.out i j w hg;have HX4 := hid fun w hg => HAX4.out n i j (by omega) w hg
   have HY1 := hid fun w hg => HAY1.out i j w hg;have HY2 := hid fun w hg => HAY2.out i j w hg;have HY3 := hid fun w hg => HAY3.out i j w hg;have HY4 := hid fun w hg => HAY4.out n i j (by omega) w hg
   obtain ⟨x0, x1⟩ := HCC.out 0 (by omega);obtain ⟨y0, y1⟩ := HCC.out i (by omega);obtain ⟨z0, z1⟩ := HCC.out j h;rw [HPI.out 0] at x0 x1;rw [HPI.out i] at y0 y1;rw [HPI.out j] at z0 z1;have x0 := zcq hBr hb x0;have x1 := zcq hBr hb x1;have y0 := zcq hBr hb y0;have y1 := zcq hBr hb y1;have z0 := zcq hBr hb z0;have z1 := zcq hBr hb z1;simp only [Nat.zero_mul, Nat.add_zero] at x0 x1;generalize areaQ (ptA l 0) (ptA l i) (ptA l j) = ar at *;generalize ptA l 0 = p at *;generalize ptA l i = q at *;generalize ptA l j = r at *;have hgd : Good wr.drew := hgr.drewN 1;have HIN := hid hi;have HJN := hid hj;clear hi hj;go_wp2_with fail;go_region_held3 (fun w' => w'.cell? ⟨b, o, none⟩ = some (.string (RS p.1)) /\ w'.cell? ⟨b, o + 1, none⟩ = some (.string (RS p.2)) /\ w'.cell? ⟨b, o + i * 2, none⟩ = some (.string (RS q.1)) /\ w'.cell? ⟨b, o + i * 2 + 1, none⟩ = some (.string (RS q.2)) /\ w'.cell? ⟨b, o + j * 2, none⟩ = some (.string (RS r.1)) /\ w'.cell? ⟨b, o + j * 2 + 1, none⟩ = some (.string (RS r.2)))
    (first | exact ⟨x0, x1, y0, y1, z0, z1⟩ | exact ⟨p_1_0, p_1_1, p_1_2, p_1_3, p_1_4, p_1_5⟩)
    (first
    | (go_at_call 25; refine (HA1.out _ hgd).mono ?_; rintro e pw1 ⟨_, rfl, rfl, pb1⟩
       have p_1_0 := zct pb1 x0;have p_1_1 := zct pb1 x1;have p_1_2 := zct pb1 y0;have p_1_3 := zct pb1 y1;have p_1_4 := zct pb1 z0;have p_1_5 := zct pb1 z1;have ps1 : wr.heap.size <= pw1.heap.size := pb1.size;have pg1 := hgd.below pb1))
   have pB : Below wr.heap.size wr pw1 := zbt (below_drewN wr 1) pb1;have hgd2 : Good pw1.drew := pg1.drewN 1;have hbp : b < pw1.heap.size := Nat.lt_of_lt_of_le hbrs pB.size;go_wp2_with fail;go_region_held3 (fun w' => w'.cell? ⟨b, o, none⟩ = some (.string (RS p.1)) /\ w'.cell? ⟨b, o + i * 2, none⟩ = some (.string (RS q.1)) /\ w'.cell? ⟨b, o + j * 2, none⟩ = some (.string (RS r.1)))
    (first | exact ⟨p_1_0, p_1_2, p_1_4⟩ | exact ⟨q_1_0, q_1_1, q_1_2⟩ | exact ⟨q_2_0, q_2_1, q_2_2⟩ | exact ⟨q_3_0, q_3_1, q_3_2⟩ | exact ⟨q_4_0, q_4_1, q_4_2⟩)
    (first
    | (go_at_call 22; refine (HX4.out _ qg3).mono ?_; rintro e qw4 ⟨_, rfl, rfl, qb4⟩
       have q_4_0 := zct qb4 q_3_0;have q_4_1 := zct qb4 q_3_1;have q_4_2 := zct qb4 q_3_2;have qs4 := qb4.size;have qg4 := qg3.below qb4)
    | (go_at_call 24; refine (HX3.out _ qg2).mono ?_; rintro e qw3 ⟨_, rfl, rfl, qb3⟩
       have q_3_0 := zct qb3 q_2_0;have q_3_1 := zct qb3 q_2_1;have q_3_2 := zct qb3 q_2_2;have qs3 := qb3.size;have qg3 := qg2.below qb3)
    | (go_at_call 22; refine (HX2.out _ qg1).mono ?_; rintro e qw2 ⟨_, rfl, rfl, qb2⟩
       have q_2_0 := zct qb2 q_1_0;have q_2_1 := zct qb2 q_1_1;have q_2_2 := zct qb2 q_1_2;have qs2 := qb2.size;have qg2 := qg1.below qb2)
    | (go_at_call 22; refine (HX1.out _ hgd2).mono ?_; rintro e qw1 ⟨_, rfl, rfl, qb1⟩
       have q_1_0 := zct qb1 p_1_0;have q_1_1 := zct qb1 p_1_2;have q_1_2 := zct qb1 p_1_4;have qs1 : pw1.heap.size <= qw1.heap.size := qb1.size;have qg1 := hgd2.below qb1))
   have qB : Below pw1.heap.size pw1 qw4 := zbt (zbt (zbt (zbt (below_drewN pw1 1) qb1) qb2) qb3) qb4;have hbr2 := hbr.trans ((pB.trans (qB.mono pB.size)).mono hbr.size);have hBr2 := hB.trans (hbr2.mono hB.size);have hgd3 : Good qw4.drew := (hg.below hBr2).drewN 1;have hbq : b < qw4.heap.size := Nat.lt_of_lt_of_le hbp qB.size;have u0 := ((pB.trans (qB.mono pB.size)).cell (p := ⟨b, o + 1, none⟩) hbrs).trans x1;have u1 := ((pB.trans (qB.mono pB.size)).cell (p := ⟨b, o + i * 2 + 1, none⟩) hbrs).trans y1;have u2 := ((pB.trans (qB.mono pB.size)).cell (p := ⟨b, o + j * 2 + 1, none⟩) hbrs).trans z1;go_wp2_with fail;go_region_held3 (fun w' => w'.cell? ⟨b, o + 1, none⟩ = some (.string (RS p.2)) /\ w'.cell? ⟨b, o + i * 2 + 1, none⟩ = some (.string (RS q.2)) /\ w'.cell? ⟨b, o + j * 2 + 1, none⟩ = some (.string (RS r.2)))
    (first | exact ⟨u0, u1, u2⟩ | exact ⟨s_1_0, s_1_1, s_1_2⟩ | exact ⟨s_2_0, s_2_1, s_2_2⟩ | exact ⟨s_3_0, s_3_1, s_3_2⟩ | exact ⟨s_4_0, s_4_1, s_4_2⟩)
    (first
    | (go_at_call 22; refine (HY4.out _ sg3).mono ?_; rintro e sw4 ⟨_, rfl, rfl, sb4⟩
       have s_4_0 := zct sb4 s_3_0;have s_4_1 := zct sb4 s_3_1;have s_4_2 := zct sb4 s_3_2;have ss4 := sb4.size;have sg4 := sg3.below sb4)
    | (go_at_call 24; refine (HY3.out _ sg2).mono ?_; rintro e sw3 ⟨_, rfl, rfl, sb3⟩
       have s_3_0 := zct sb3 s_2_0;have s_3_1 := zct sb3 s_2_1;have s_3_2 := zct sb3 s_2_2;have ss3 := sb3.size;have sg3 := sg2.below sb3)
    | (go_at_call 22; refine (HY2.out _ sg1).mono ?_; rintro e sw2 ⟨_, rfl, rfl, sb2⟩
       have s_2_0 := zct sb2 s_1_0;have s_2_1 := zct sb2 s_1_1;have s_2_2 := zct sb2 s_1_2;have ss2 := sb2.size;have sg2 := sg1.below sb2)
    | (go_at_call 22; refine (HY1.out _ hgd3).mono ?_; rintro e sw1 ⟨_, rfl, rfl, sb1⟩
       have s_1_0 := zct sb1 u0;have s_1_1 := zct sb1 u1;have s_1_2 := zct sb1 u2;have ss1 : qw4.heap.size <= sw1.heap.size := sb1.size;have sg1 := hgd3.below sb1))
   have sB : Below qw4.heap.size qw4 sw4 := zbt (zbt (zbt (zbt (below_drewN qw4 1) sb1) sb2) sb3) sb4;have hbr3 := hbr2.trans (sB.mono hbr2.size);clear x0 x1 y0 y1 z0 z1 u0 u1 u2 hgd;go_wp2_with fail;go_roundw
   case rel => exact ⟨n + 1, by rw [HJN.out], by rw [<- HIN.out, HSX.out], by rw [<- HIN.out, HSY.out], by have := HJN.out; omega, hbr3⟩
   case measure => have := HIN.out; have := HJN.out; simp [RowKit.intOf]; omega
  ·have hjz : ¬ (j : Int) < (l.length : Int) := by omega
   have HN : Hid (n = l.length - 2) := by unfold Hid; omega
   rw [HN.out];have b1 := bR.below hbr bR.lt;clear hi hj;go_wp2_with fail;refine (HAL.out wr hBr hgr).mono ?_;rintro e w1 ⟨_, rfl, rfl, hb1⟩;have hB1 := hBr.trans (hb1.mono hBr.size);go_wp2_with fail;refine (HM3.out w1 (hg.below hB1)).mono ?_;rintro e w2 ⟨_, rfl, rfl, hb2⟩;have hB2 := hB1.trans (hb2.mono hB1.size);go_wp2_with fail;refine (HDX.out w2 (hg.below hB2)).mono ?_;rintro e w3 ⟨_, rfl, rfl, hb3⟩;have hB3 := hB2.trans (hb3.mono hB2.size);go_wp2_with fail;refine (HDY.out w3 (hg.below hB3)).mono ?_;rintro e w4 ⟨_, rfl, rfl, hb4⟩;have hB4 := hB3.trans (hb4.mono hB3.size);have b4 := (((b1.below hb1 b1.lt).below hb2 (b1.below hb1 b1.lt).lt).below hb3 ((b1.below hb1 b1.lt).below hb2 (b1.below hb1 b1.lt).lt).lt);have b5 := b4.below hb4 b4.lt;have d0 := b5.cell 0 rfl;have d1 := b5.cell 1 rfl;have d2 := b5.frozen 0;have d3 := b5.frozen 1;clear b1 b4 hb1 hb2 hb3 hb4 hB1 hB2 hB3;go_wp2_with fail;have BF := (b5.set 0 (.string (RS (LX (l.length - 2) / lk)))).set 1 (.string (RS (LY (l.length - 2) / lk)));have hBF := (hB4.setCell (p := ⟨w.heap.size, 0, none⟩) (Nat.le_refl _) (.string (RS (LX (l.length - 2) / lk)))).setCell (p := ⟨w.heap.size, 1, none⟩) (Nat.le_refl _) (.string (RS (LY (l.length - 2) / lk)));have g0 := BF.cell 0 rfl;have g1 := BF.cell 1 rfl;exact bodyPost_ret (v := .agg #[.string (RS (LX (l.length - 2) / lk)), .string (RS (LY (l.length - 2) / lk))]) (by simp [results, Tryz.results57, go_sem, g0, g1]) rfl ⟨_, rfl, rfl, hBF⟩
theorem tow05_any (a b : PtQ) (s : Rat) (n m : Nat) (hn : 0 < n) (hm : m + 3 * n + 2 <= 20000) (ha : SzP n a) (hb : SzP n b) (hs : Sz m s) (w : World) (hg : Good w) :
 Calls Tryz.prog 13 #[.agg #[.string (RS a.1), .string (RS a.2)], .agg #[.string (RS b.1), .string (RS b.2)], .string (RS s)] w (Ret (fun r _ => r = .agg #[.string (RS (towQ a.1 b.1 s)), .string (RS (towQ a.2 b.2 s))]) w) := by
 have H1 := hid fun w hg => subQ_any b.1 a.1 n hn (by omega) hb.1 ha.1 w hg
 have H4 := hid fun w hg => subQ_any b.2 a.2 n hn (by omega) hb.2 ha.2 w hg
 have z1 : Sz (2 * n + 1) (b.1 - a.1) := (hb.1.sub ha.1).mono (by omega);have z2 : Sz (2 * n + 1) (b.2 - a.2) := (hb.2.sub ha.2).mono (by omega);have H2 := hid fun w hg => mulQ_any s (b.1 - a.1) (m + 2 * n + 1) (by omega) (by omega) (hs.mono (by omega)) (z1.mono (by omega)) w hg
 have H5 := hid fun w hg => mulQ_any s (b.2 - a.2) (m + 2 * n + 1) (by omega) (by omega) (hs.mono (by omega)) (z2.mono (by omega)) w hg
 have y1 : Sz (m + 2 * n + 1) (s * (b.1 - a.1)) := (hs.mul z1).mono (by omega);have y2 : Sz (m + 2 * n + 1) (s * (b.2 - a.2)) := (hs.mul z2).mono (by omega);have H3 := hid fun w hg => addQ_any a.1 (s * (b.1 - a.1)) (m + 2 * n + 1) (by omega) (by omega) (ha.1.mono (by omega)) y1 w hg
 have H6 := hid fun w hg => addQ_any a.2 (s * (b.2 - a.2)) (m + 2 * n + 1) (by omega) (by omega) (ha.2.mono (by omega)) y2 w hg
 unfold towQ;generalize RS (a.1 + s * (b.1 - a.1)) = r1 at *;generalize RS (a.2 + s * (b.2 - a.2)) = r2 at *;generalize RS (s * (b.1 - a.1)) = p1 at *;generalize RS (s * (b.2 - a.2)) = p2 at *;generalize RS (b.1 - a.1) = d1 at *;generalize RS (b.2 - a.2) = d2 at *;generalize RS a.1 = ax at *;generalize RS a.2 = ay at *;generalize RS b.1 = bx at *;generalize RS b.2 = by' at *;generalize RS s = sz at *;clear ha hb hs z1 z2 y1 y2 hm;go_enter Tryz.func13, Tryz.ntmps13;go_wp2_with fail;obtain ⟨W, hW⟩ : ∃ W, W = ((w.alloc (.cells #[.string ax, .string ay] 33)).alloc (.cells #[.string bx, .string by'] 33)).alloc (.cells #[.string ⟨#[]⟩, .string ⟨#[]⟩] 33) := ⟨_, rfl⟩;have hB : Below w.heap.size w W := by rw [hW]; exact (((Below.refl _ _).alloc (Nat.le_refl _) _).alloc (by simp) _).alloc (by simp; omega) _
 have b6 : BoxN W (w.heap.size + 1 + 1) 33 [.string ⟨#[]⟩, .string ⟨#[]⟩] := by rw [hW]; exact BoxN.new _ _ _ _ (by simp)
 have b4 : BoxN W (w.heap.size + 1) 33 [.string bx, .string by'] := by
  rw [hW];have h1 := (BoxN.new (w.alloc (.cells #[.string ax, .string ay] 33)) #[.string bx, .string by'] 33 (w.heap.size + 1) (by simp));exact h1.below (zal _ _) h1.lt
 have b3 : BoxN W w.heap.size 33 [.string ax, .string ay] := by
  rw [hW];have h1 := (BoxN.new w #[.string ax, .string ay] 33 _ rfl);exact h1.below (((Below.refl _ _).alloc (Nat.le_refl _) _).alloc (by simp) _) h1.lt
 rw [<- hW];clear hW;have hgd : Good W.drew := (hg.below hB).drewN 1;have HF : Hid (∀ w', Below W.heap.size W w' -> (w'.cell? ⟨w.heap.size, 0, none⟩ = some (.string ax) /\ w'.cell? ⟨w.heap.size, 1, none⟩ = some (.string ay) /\ w'.cell? ⟨w.heap.size + 1, 0, none⟩ = some (.string bx) /\ w'.cell? ⟨w.heap.size + 1, 1, none⟩ = some (.string by')) /\ Good w' /\ BoxN w' (w.heap.size + 1 + 1) 33 [.string ⟨#[]⟩, .string ⟨#[]⟩] /\ Below w.heap.size w w') := fun w' hb => by
  have x3 := b3.below hb b3.lt;have x4 := b4.below hb b4.lt;exact ⟨⟨x3.cell 0 rfl, x3.cell 1 rfl, x4.cell 0 rfl, x4.cell 1 rfl⟩, (hg.below hB).below hb, b6.below hb b6.lt, hB.trans (hb.mono hB.size)⟩
 have HTR : Hid (∀ w' w'', Below W.heap.size W w' -> Below w'.heap.size w' w'' -> Below W.heap.size W w'') := fun w' w'' h1 h2 => h1.trans (h2.mono h1.size);have hb0 := below_drewN W 1;have hx0 := (HF.out _ hb0).1;have HFAR : Hid (∀ (X : World) (i j b m : Nat) (u v : Value), b < w.heap.size + 1 + 1 -> ((X.setCell ⟨w.heap.size + 1 + 1, i, none⟩ u).setCell ⟨w.heap.size + 1 + 1, j, none⟩ v).cell? ⟨b, m, none⟩ = X.cell? ⟨b, m, none⟩) := fun X i j b m u v h => by
  have hne : w.heap.size + 1 + 1 ≠ b := by omega
  rw [World.cell?_setCell_far _ _ _ _ hne, World.cell?_setCell_far _ _ _ _ hne]
 clear b3 b4 b6 hB;go_region_held3 (fun w' => w'.cell? ⟨w.heap.size, 0, none⟩ = some (.string ax) /\ w'.cell? ⟨w.heap.size, 1, none⟩ = some (.string ay) /\ w'.cell? ⟨w.heap.size + 1, 0, none⟩ = some (.string bx) /\ w'.cell? ⟨w.heap.size + 1, 1, none⟩ = some (.string by'))
  (first | exact hx0 | exact hx1 | exact hx2 | exact hx3 | exact hx4 | exact hx5 | exact hx6 | exact ⟨(HFAR.out _ _ _ _ _ _ _ (by omega)).trans hx6.1, (HFAR.out _ _ _ _ _ _ _ (by omega)).trans hx6.2.1, (HFAR.out _ _ _ _ _ _ _ (by omega)).trans hx6.2.2.1, (HFAR.out _ _ _ _ _ _ _ (by omega)).trans hx6.2.2.2⟩)
  (first
    | (go_at_call 22; refine (H6.out _ hg5).mono ?_; rintro e v6 ⟨_, rfl, rfl, hbb6⟩
       have hb_6 := HTR.out _ _ hb_5 hbb6;obtain ⟨hx6, hg6, b6_6, hB6⟩ := HF.out _ hb_6;have y0 := b6_6.cell 0 rfl;have y1 := b6_6.cell 1 rfl;have y0f := b6_6.frozen 0;have y1f := b6_6.frozen 1)
    | (go_at_call 24; refine (H5.out _ hg4).mono ?_; rintro e v5 ⟨_, rfl, rfl, hbb5⟩
       have hb_5 := HTR.out _ _ hb_4 hbb5;obtain ⟨hx5, hg5, b6_5, hB5⟩ := HF.out _ hb_5)
    | (go_at_call 16; refine (H4.out _ hg3).mono ?_; rintro e v4 ⟨_, rfl, rfl, hbb4⟩
       have hb_4 := HTR.out _ _ hb_3 hbb4;obtain ⟨hx4, hg4, b6_4, hB4⟩ := HF.out _ hb_4)
    | (go_at_call 22; refine (H3.out _ hg2).mono ?_; rintro e v3 ⟨_, rfl, rfl, hbb3⟩
       have hb_3 := HTR.out _ _ hb_2 hbb3;obtain ⟨hx3, hg3, b6_3, hB3⟩ := HF.out _ hb_3)
    | (go_at_call 24; refine (H2.out _ hg1).mono ?_; rintro e v2 ⟨_, rfl, rfl, hbb2⟩
       have hb_2 := HTR.out _ _ hb_1 hbb2;obtain ⟨hx2, hg2, b6_2, hB2⟩ := HF.out _ hb_2)
    | (go_at_call 16; refine (H1.out _ hgd).mono ?_; rintro e v1 ⟨_, rfl, rfl, hbb1⟩
       have hb_1 := HTR.out _ _ hb0 hbb1;obtain ⟨hx1, hg1, b6_1, hB1⟩ := HF.out _ hb_1))
 all_goals
  go_wp2_with fail;have BF := (b6_6.set 0 (.string r1)).set 1 (.string r2);have g0 := BF.cell 0 rfl;have g1 := BF.cell 1 rfl;have hle : w.heap.size <= w.heap.size + 1 + 1 := by omega
  have hBF := (hB6.setCell (p := ⟨w.heap.size + 1 + 1, 0, none⟩) hle (.string r1)).setCell (p := ⟨w.heap.size + 1 + 1, 1, none⟩) hle (.string r2);exact bodyPost_ret (v := .agg #[.string r1, .string r2]) (by simp [results, Tryz.results13, go_sem, g0, g1]) rfl ⟨_, rfl, rfl, hBF⟩
theorem cellsPS_snoc (l : List PtQ) (p : PtQ) : cellsP (strP (l ++ [p])) = cellsP (strP l) ++ [.string (RS p.1), .string (RS p.2)] := by simp [cellsP, strP]
theorem corA_lon (P : List PtQ) (F : List Rat) (tr : Tri) (i : Nat) (_hi : i < 3) : corA (corP P F tr.1) (corP P F tr.2.1) (corP P F tr.2.2) i = (lonA P tr i, lonF F tr i) := by
 rcases (by omega : i = 0 \/ i = 1 \/ i = 2) with rfl | rfl | rfl <;> rfl
theorem corB_lon (P : List PtQ) (F : List Rat) (tr : Tri) (i : Nat) (_hi : i < 3) : corB (corP P F tr.1) (corP P F tr.2.1) (corP P F tr.2.2) i = (lonA P tr ((i + 1) % 3), lonF F tr ((i + 1) % 3)) := by
 rcases (by omega : i = 0 \/ i = 1 \/ i = 2) with rfl | rfl | rfl <;> rfl
theorem lpart13_any (w : World) (vp vt vf : Value) (P : List PtQ) (T : List Tri) (k : Nat) (F : List Rat) (h : FieldIn w vp vt vf P T k F) (t : Nat) (htl : t < T.length) (tr : Tri) (htr : tr = T[t]) (z : Rat) (m : Nat) (hz : Sz m z) (hkm : 6 * k + m + 4 <= 200) (hg : Good w) :
 Calls Tryz.prog 55 #[.agg #[vp, vt], vf, .int .i64 (t : Int), .string (RS z)] w (Ret (fun r w' => (partT P F z tr = [] /\ r = .slice none 0 0) \/ (partT P F z tr ≠ [] /\ ∃ n, n < (partT P F z tr).length /\ RdP w' r (strP (begL ((partT P F z tr).map (·.1)) n)))) w) := by
 have hk0 := h.m.kpos;have hmem : tr ∈ T := by rw [htr]; exact List.getElem_mem htl
 have hidx := h.m.idx tr hmem;have hfl := h.fl;have hpl := h.m.plen;have hT8 := h.m.tlen;have hsz : ∀ x ∈ idxOf tr, SzP k (ptI P x) /\ Sz k (hI F x) := fun x hx => by
  obtain ⟨h0, h1⟩ := hidx x hx;obtain ⟨q, rfl⟩ : ∃ q : Nat, x = (q : Int) := ⟨x.toNat, by omega⟩;rw [ptI_nat P q (by omega), hI_nat F q (by omega)];exact ⟨h.m.sz _ (List.getElem_mem _), h.fs _ (List.getElem_mem _)⟩
 have zC : ∀ i, i < 3 -> SzP k (lonA P tr i) /\ Sz k (lonF F tr i) := fun i hi => by
  rcases (by omega : i = 0 \/ i = 1 \/ i = 2) with rfl | rfl | rfl
  ·exact hsz _ (by simp [idxOf])
  ·exact hsz _ (by simp [idxOf])
  ·exact hsz _ (by simp [idxOf])
 have HPS : Hid (∀ p ∈ (partT P F z tr).map (·.1), SzP (6 * k + m + 4) p) := fun p hp => by
  obtain ⟨c, hc, rfl⟩ := List.mem_map.1 hp;exact (partT_Sz2 hsz hz c hc).1
 have HBG : Hid (∀ w' v, 0 < (partT P F z tr).length -> RdP w' v (strP ((partT P F z tr).map (·.1))) -> Good w' -> _) := fun w' v hp hv hg => begin09_any w' v ((partT P F z tr).map (·.1)) (6 * k + m + 4) (by omega) (by omega) (by rw [List.length_map]; exact hp) (by rw [List.length_map]; have := partT_len P F z tr; omega) HPS.out hv hg
 have HCN : Hid (∀ w', Below w.heap.size w w' -> Good w' -> Calls Tryz.prog 23 #[.agg #[vp, vt], .int .i64 (t : Int)] w' (Ret (fun r w' => RdP w' r (strP [ptI P tr.1, ptI P tr.2.1, ptI P tr.2.2])) w')) := fun w' hb hg => lcorn13_any w' vp vt P T k (RdC.below h.p hb) (RdC.below h.t hb) h.m.toMeshIn t htl tr htr hg;obtain ⟨bt, ot, ct, rfl, hbt, e0, e1, e2⟩ := h.tri t htl;have hT0 := hidx tr.1 (by simp [idxOf]);obtain ⟨bf, of, cf, rfl, hbf, hcf⟩ := h.f.cells (by omega);have HFT : Hid (∀ i : Nat, i < 3 -> ∃ q : Nat, q < F.length /\ w.cell? ⟨bt, ot + t * 3 + i, none⟩ = some (.int .i64 (q : Int)) /\ w.cell? ⟨bf, of + q, none⟩ = some (.string (RS (lonF F tr i)))) := fun i hi => by
  rw [<- htr] at e0 e1 e2;have key : ∀ z : Int, 0 <= z -> z < P.length -> ∃ q : Nat, z = (q : Int) /\ q < F.length /\ w.cell? ⟨bf, of + q, none⟩ = some (.string (RS (hI F z))) := fun z h0 h1 => by
   obtain ⟨q, rfl⟩ : ∃ q : Nat, z = (q : Int) := ⟨z.toNat, by omega⟩;exact ⟨q, rfl, by omega, hcf q (by omega)⟩
  rcases (by omega : i = 0 \/ i = 1 \/ i = 2) with rfl | rfl | rfl
  ·obtain ⟨q, hq, x1, x4⟩ := key tr.1 (hidx _ (by simp [idxOf])).1 (hidx _ (by simp [idxOf])).2
   exact ⟨q, x1, by rw [<- hq]; exact e0, x4⟩
  ·obtain ⟨q, hq, x1, x4⟩ := key tr.2.1 (hidx _ (by simp [idxOf])).1 (hidx _ (by simp [idxOf])).2
   exact ⟨q, x1, by rw [<- hq]; exact e1, x4⟩
  ·obtain ⟨q, hq, x1, x4⟩ := key tr.2.2 (hidx _ (by simp [idxOf])).1 (hidx _ (by simp [idxOf])).2
   exact ⟨q, x1, by rw [<- hq]; exact e2, x4⟩
 obtain ⟨pp, cp, rfl, -, -, -⟩ := h.p.open;rw [strP_length] at *;rw [show strP [ptI P tr.1, ptI P tr.2.1, ptI P tr.2.2] = strP [lonA P tr 0, lonA P tr 1, lonA P tr 2] from rfl] at HCN;have HPT : Hid (partT P F z tr = cutL (corP P F tr.1) (corP P F tr.2.1) (corP P F tr.2.2) z) := rfl;obtain ⟨cA, hcA⟩ : ∃ c, c = cutTo (corP P F tr.1) (corP P F tr.2.1) (corP P F tr.2.2) z := ⟨_, rfl⟩;obtain ⟨sA, hsA⟩ : ∃ c, c = someTo (corP P F tr.1) (corP P F tr.2.1) (corP P F tr.2.2) z := ⟨_, rfl⟩;have HCO : Hid (∀ i : Nat, i < 3 -> ∃ (A B : Cor) (j : Nat), ((i : Int) + 1).tmod 3 = (j : Int) /\ j < 3 /\ A = (lonA P tr i, lonF F tr i) /\ B = (lonA P tr j, lonF F tr j) /\ (SzP k A.1 /\ Sz k A.2) /\ (SzP k B.1 /\ Sz k B.2) /\ cA (i + 1) = cA i ++ cutS A B z /\ sA (i + 1) = (sA i || decide (0 < (A.2 - z).num.sign))) := fun i hi => by
  have h1 := corA_lon P F tr i hi;have h2 := corB_lon P F tr i hi;have h3 : ((i : Int) + 1).tmod 3 = (((i + 1) % 3 : Nat) : Int) /\ (i + 1) % 3 < 3 := by
   rcases (by omega : i = 0 \/ i = 1 \/ i = 2) with rfl | rfl | rfl <;> decide
  refine ⟨_, _, (i + 1) % 3, h3.1, h3.2, h1, h2, ?_, ?_, by rw [hcA]; rfl, by rw [hsA]; rfl⟩
  ·rw [h1]; exact zC i hi
  ·rw [h2]; exact zC _ h3.2
 have HE3 : Hid ((sA 3 = true -> cA 3 ≠ []) /\ (sA 3 = true -> partT P F z tr = cA 3) /\ (sA 3 = false -> partT P F z tr = [])) := by
  refine ⟨fun e => ?_, fun e => ?_, fun e => ?_⟩
  ·rw [hcA]; rw [hsA] at e; exact cutTo_ne _ _ _ _ 3 e
  ·rw [hsA] at e; rw [HPT.out, hcA]; unfold cutL; rw [if_pos e]
  ·rw [hsA] at e; rw [HPT.out]; unfold cutL; rw [e]; rfl
 have hc0 : cA 0 = [] := by rw [hcA]; rfl
 have hs0 : sA 0 = false := by rw [hsA]; rfl
 have HZ := hid hz;have htz : (t : Int) < (T.length : Int) := by omega
 have hwt : IntKind.i64.wrap (t : Int) = (t : Int) := IntWalk.i64_in _ (by omega);generalize lonA P tr = CA at *;generalize lonF F tr = CF at *;generalize partT P F z tr = PT at *;clear h hidx hmem e0 e1 e2 hsz zC hcf HPS HPT hcA hsA hz htr hT0 hfl hpl;obtain ⟨i0, hi, hzz0, hzz1, hzz2⟩ := info_parts info_pt9;go_enter Tryz.func55, Tryz.ntmps55;go_upto_region 2 with fail;obtain ⟨W, hW⟩ : ∃ W, W = w.alloc (.cells #[.slice pp P.length cp, .slice (some ⟨bt, ot, none⟩) T.length ct] 38) := ⟨_, rfl⟩;have hB : Below w.heap.size w W := by rw [hW]; exact zal _ _
 have b4 : BoxN W w.heap.size 38 [.slice pp P.length cp, .slice (some ⟨bt, ot, none⟩) T.length ct] := by rw [hW]; exact BoxN.new _ _ _ _ rfl
 rw [<- hW];clear hW;have m0 := b4.cell 0 rfl;have m1 := b4.cell 1 rfl;go_wp2_with fail;refine (HCN.out W hB (hg.below hB)).mono ?_;rintro e w1 ⟨_, rfl, hrc, hb1⟩;have hB1 := hB.trans (hb1.mono hB.size);have b41 := b4.below hb1 b4.lt;obtain ⟨pc, cc, rfl, -, -, hcc⟩ := hrc.open;obtain ⟨bc, oc, rfl, hbc, hcel⟩ := hcc (by simp [strP]);have HCC : Hid (∀ i : Nat, i < 3 -> w1.cell? ⟨bc, oc + i * 2, none⟩ = some (.string (RS (CA i).1)) /\ w1.cell? ⟨bc, oc + i * 2 + 1, none⟩ = some (.string (RS (CA i).2))) := fun i hi => by
  rcases (by omega : i = 0 \/ i = 1 \/ i = 2) with rfl | rfl | rfl
  ·exact hcel 0 (by simp [strP])
  ·exact hcel 1 (by simp [strP])
  ·exact hcel 2 (by simp [strP])
 rw [show (strP [CA 0, CA 1, CA 2]).length = 3 from rfl];clear hb1 hB b4 m0 m1 hrc hcc hcel HCN;have hs1 := hB1.size;go_wp2_with fail;go_loopw [9, 11, 12] (fun t9 t11 t12 wr => ∃ (i n : Nat) (b : Bool), t12 = .int .i64 i /\ t11 = .bool b /\ i <= 3 /\ n <= 2 * i /\ Hid ((cA i).length = n) /\ Hid (b = sA i) /\ wr.ownsRow w1.heap.size 33 2 t9 n (cellsP (strP ((cA i).map (·.1)))) /\ Below w1.heap.size w1 wr) (fun _ _ t12 _ => 3 - (RowKit.intOf t12).toNat)
 case atStart => exact ⟨0, 0, false, rfl, rfl, Nat.zero_le _, Nat.le_refl _, by unfold Hid; rw [hc0]; rfl, hs0.symm, by rw [hc0]; exact World.ownsRow_nil _ _ _ _, Below.refl _ _⟩
 case round =>
  obtain ⟨i, n, b, rfl, rfl, hin, hni, HLN, HSM, hown, hbr⟩ := hrel;obtain ⟨p5, c5, rfl⟩ := ownsRow_shape hown;have hBr := hB1.trans (hbr.mono hB1.size);have hgr := hg.below hBr;rcases Nat.lt_or_ge i 3 with h3 | h3
  ·obtain ⟨A, B, j, hj, hj3, hA, hBj, hsA, hsB, HST0, HSS0⟩ := HCO.out i h3
   have HST := hid HST0;have HSS : Hid (sA (i + 1) = (b || decide (0 < (A.2 - z).num.sign))) := by unfold Hid; rw [HSS0, HSM.out]
   obtain ⟨q, hqF, qt0, qf0⟩ := HFT.out i h3;obtain ⟨r, hrF, rt0, rf0⟩ := HFT.out j hj3;have ca := HCC.out i h3;have cb := HCC.out j hj3;have hA1 : CA i = A.1 := by rw [hA]
   have hA2 : CF i = A.2 := by rw [hA]
   have hB1' : CA j = B.1 := by rw [hBj]
   have hB2' : CF j = B.2 := by rw [hBj]
   rw [hA2] at qf0;rw [hB2'] at rf0;rw [hA1] at ca;rw [hB1'] at cb;have hzx : Sz (k + m + 1) (A.2 - z) := (hsA.2.sub HZ.out).mono (by omega);have hzy : Sz (k + m + 1) (B.2 - z) := (hsB.2.sub HZ.out).mono (by omega);have HX := hid fun w hg => subQ_any A.2 z (k + m) (by omega) (by omega) (hsA.2.mono (by omega)) (HZ.out.mono (by omega)) w hg
   have HY := hid fun w hg => subQ_any B.2 z (k + m) (by omega) (by omega) (hsB.2.mono (by omega)) (HZ.out.mono (by omega)) w hg
   have HQS : Hid (A.2 - z - (B.2 - z) ≠ 0 -> Sz (4 * (k + m + 1) + 4) ((A.2 - z) / (A.2 - z - (B.2 - z)))) := fun hne => (hzx.div ((hzx.sub hzy).mono (Nat.le_refl _)) (by omega)).mono (by omega)
   obtain ⟨x, hx⟩ : ∃ x, x = A.2 - z := ⟨_, rfl⟩;obtain ⟨y, hy⟩ : ∃ y, y = B.2 - z := ⟨_, rfl⟩;rw [<- hx] at hzx HX HSS HQS;rw [<- hy] at hzy HY HQS;have HDV : Hid (x - y ≠ 0 -> ∀ w, Good w -> _) := fun hne w hg => divQ_any x (x - y) (2 * (k + m + 1) + 1) (by omega) (by omega) (hzx.mono (by omega)) ((hzx.sub hzy).mono (by omega)) hne w hg
   have HDS := hid fun w hg => subQ_any x y (k + m + 1) (by omega) (by omega) hzx hzy w hg
   have HTW : Hid (x - y ≠ 0 -> ∀ w, Good w -> _) := fun hne w hg => tow05_any A.1 B.1 (x / (x - y)) k (4 * (k + m + 1) + 4) hk0 (by omega) hsA.1 hsB.1 (HQS.out hne) w hg
   have HC1 : Hid (cutS A B z = (if 0 <= x.num.sign then [A] else []) ++ (if x.num.sign * y.num.sign < 0 then [crossK A B z] else [])) := by rw [hx, hy]; rfl
   have HCK : Hid ((crossK A B z).1 = (towQ A.1.1 B.1.1 (x / (x - y)), towQ A.1.2 B.1.2 (x / (x - y)))) := by rw [hx, hy]; rfl
   have HGX : Hid (∀ w, _) := fun w => signQ_any x w;have HGY : Hid (∀ w, _) := fun w => signQ_any y w;have HNE : Hid (x.num.sign * y.num.sign < 0 -> x - y ≠ 0) := fun hlt e => by
    have e2 : x = y := by grind
    rw [e2] at hlt;rcases sign3 y with e | e | e <;> rw [e] at hlt <;> exact absurd hlt (by decide)
   have HSX3 := hid (sign3 x);have HSY3 := hid (sign3 y);generalize x.num.sign = sx at *;generalize y.num.sign = sy at *;have m1 := (b41.below hbr b41.lt).cell 1 rfl;have q1 := zcq hBr hbt qt0;have q2 := zcq hBr hbf qf0;have r1 := zcq hBr hbt rt0;have r2 := zcq hBr hbf rf0;have HKA : Hid (∀ w', Below w1.heap.size w1 w' -> w'.cell? ⟨bc, oc + i * 2, none⟩ = some (.string (RS A.1.1)) /\ w'.cell? ⟨bc, oc + i * 2 + 1, none⟩ = some (.string (RS A.1.2)) /\ w'.cell? ⟨bc, oc + j * 2, none⟩ = some (.string (RS B.1.1)) /\ w'.cell? ⟨bc, oc + j * 2 + 1, none⟩ = some (.string (RS B.1.2))) := fun w' hw => ⟨(zcq hw hbc ca.1 :), (zcq hw hbc ca.2 :), (zcq hw hbc cb.1 :), (zcq hw hbc cb.2 :)⟩;have lbt : bt < wr.heap.size := Nat.lt_of_lt_of_le hbt hBr.size;have lbf : bf < wr.heap.size := Nat.lt_of_lt_of_le hbf hBr.size;have lbm : w.heap.size < wr.heap.size := (b41.below hbr b41.lt).lt;have hgd : Good wr.drew := hgr.drewN 1;have hw1 : IntKind.i64.wrap ((i : Int) + 1) = (i : Int) + 1 := IntWalk.i64_in _ (by omega);have hw3 : IntKind.i64.wrap (j : Int) = (j : Int) := IntWalk.i64_in _ (by omega);have hiz : (i : Int) < 3 := by omega
   have hjz : (j : Int) < 3 := by omega
   have hqz : (q : Int) < (F.length : Int) := by omega
   have hrz : (r : Int) < (F.length : Int) := by omega
   clear ca cb qt0 qf0 rt0 rf0 hA1 hA2 hB1' hB2' hA hBj HST0 HSS0 hzx hzy hsA hsB hx hy HCO HFT;go_upto_region 8 with fail;go_region_held3 (fun w' => w'.cell? ⟨w.heap.size, 1, none⟩ = some (.slice (some ⟨bt, ot, none⟩) T.length ct) /\ w'.cell? ⟨bt, ot + t * 3 + i, none⟩ = some (.int .i64 (q : Int)) /\ w'.cell? ⟨bf, of + q, none⟩ = some (.string (RS A.2)) /\ w'.cell? ⟨bt, ot + t * 3 + j, none⟩ = some (.int .i64 (r : Int)) /\ w'.cell? ⟨bf, of + r, none⟩ = some (.string (RS B.2)))
    (first | exact ⟨m1, q1, q2, r1, r2⟩ | exact ⟨p_1_0, p_1_1, p_1_2, p_1_3, p_1_4⟩ | exact ⟨p_2_0, p_2_1, p_2_2, p_2_3, p_2_4⟩)
    (first
    | (go_at_call 16; refine (HY.out _ pg1).mono ?_; rintro e pw2 ⟨_, rfl, rfl, pb2⟩
       have p_2_0 := zct pb2 p_1_0;have p_2_1 := zct pb2 p_1_1;have p_2_2 := zct pb2 p_1_2;have p_2_3 := zct pb2 p_1_3;have p_2_4 := zct pb2 p_1_4;have ps2 := pb2.size;have pg2 := pg1.below pb2)
    | (go_at_call 16; refine (HX.out _ hgd).mono ?_; rintro e pw1 ⟨_, rfl, rfl, pb1⟩
       have p_1_0 := zct pb1 m1;have p_1_1 := zct pb1 q1;have p_1_2 := zct pb1 q2;have p_1_3 := zct pb1 r1;have p_1_4 := zct pb1 r2;have ps1 : wr.heap.size <= pw1.heap.size := pb1.size;have pg1 := hgd.below pb1))
   have pB : Below wr.heap.size wr pw2 := zbt (zbt (below_drewN wr 1) pb1) pb2;have hown2 := World.ownsRow.belowAll hown pB;have hbr2 : Below w1.heap.size w1 pw2 := hbr.trans (pB.mono hbr.size);clear pB pb1 pb2 ps1 ps2 pg1 pg2 m1 q1 q2 r1 r2 hown hgd;go_upto_region 9 with fail;go_cut [11] (fun s11 wx => s11 = .bool (b || decide (0 < sx)) /\ ∃ nd, wx = pw2.drewN nd)
   case first =>
    clear HC1 HCK HNE HDV HDS HQS HTW HX HY HST HSS HLN HSM HKA hown2 hbr2 hbr hBr;cases b
    ·go_wp2_with fail
     refine (HGX.out pw2).mono ?_;rintro e w3 ⟨_, rfl, rfl, nd, rfl⟩;rcases HSX3.out with rfl | rfl | rfl
     all_goals
      go_wp2_with fail;go_meet;exact ⟨rfl, _, rfl⟩
    ·go_wp2_with fail
     go_meet;exact ⟨rfl, 0, rfl⟩
   case rest =>
   obtain ⟨rfl, nd1, rfl⟩ := hcut;obtain ⟨w3, hw3⟩ : ∃ X, X = pw2.drewN nd1 := ⟨_, rfl⟩;have hd3 : Below pw2.heap.size pw2 w3 := by rw [hw3]; exact below_drewN pw2 nd1
   rw [<- hw3];clear hw3;have hown3 := World.ownsRow.belowAll hown2 hd3;have hbr3 := hbr2.trans (hd3.mono hbr2.size);obtain ⟨b2, hb2⟩ : ∃ b2, b2 = (b || decide (0 < sx)) := ⟨_, rfl⟩;rw [<- hb2] at HSS ⊢;have HSM2 : Hid (b2 = sA (i + 1)) := HSS.out.symm;clear hd3 hown2 hbr2 hbr hBr hb2 HSS HSM;go_upto_region 11 with fail;refine (HGX.out w3).mono ?_;rintro e w4' ⟨_, rfl, rfl, nd, rfl⟩;go_upto_if 58 with fail;obtain ⟨w4, hw4⟩ : ∃ X, X = w3.drewN nd := ⟨_, rfl⟩;have hd4 : Below w3.heap.size w3 w4 := by rw [hw4]; exact below_drewN w3 nd
   rw [<- hw4];clear hw4;have hown4 := World.ownsRow.belowAll hown3 hd4;have hbr4 := hbr3.trans (hd4.mono hbr3.size);clear hd4 hown3 hbr3;generalize cA i = L at *;obtain ⟨L1, hL1⟩ : ∃ l, l = L ++ (if 0 <= sx then [A] else []) := ⟨_, rfl⟩;have HL1 := hid hL1;clear hL1;go_cut [9] (fun s9 wx => ∃ n' : Nat, n' <= n + 1 /\ Hid (L1.length = n') /\ wx.ownsRow w1.heap.size 33 2 s9 n' (cellsP (strP (L1.map (·.1)))) /\ Below w1.heap.size w1 wx)
   case first =>
    rcases Int.lt_or_le sx 0 with hs | hs
    ·have HE : Hid (L1 = L) := by unfold Hid; rw [HL1.out, if_neg (by omega), List.append_nil]
     go_wp2_with fail;go_meet;exact ⟨n, by omega, by unfold Hid; rw [HE.out]; exact HLN.out, by rw [HE.out]; exact hown4, hbr4⟩
    ·have HE : Hid (L1 = L ++ [A]) := by unfold Hid; rw [HL1.out, if_pos hs]
     have HLE : Hid (L1.length = n + 1) := by unfold Hid; rw [HE.out, List.length_append, HLN.out]; rfl
     have HBE : Hid (cellsP (strP (L1.map (·.1))) = cellsP (strP (L.map (·.1))) ++ [.string (RS A.1.1), .string (RS A.1.2)]) := by unfold Hid; rw [HE.out, List.map_append]; exact cellsPS_snoc _ _
     obtain ⟨a0, a1, -, -⟩ := HKA.out _ hbr4;have hn4 : n <= 4 := by omega
     have hzB := hbr4.size
     go_wp2_with (at_builtin; refine wpList_append_own _ rfl _ _ 35 rfl w1.heap.size 33 i0 (.agg #[.string ⟨#[]⟩, .string ⟨#[]⟩]) 2 32 Tryz.underlying35 hi hzz0 hzz1 hzz2 rfl (by decide) _ _ _ rfl (hown4.alloc _) ⟨w4.heap.size, 0, none⟩ 1 1 [.string (RS A.1.1), .string (RS A.1.2)] rfl rfl (cell_two _ _ _ _) (two_str _ _) (by unfold maxLen; omega) (by omega) (by simp; omega) ?_
                  intro v5 w5 hown5 hgrow5 _;have hbr5 : Below w1.heap.size w1 w5 := (hbr4.alloc hzB _).grown hgrow5 (by simp; omega) (fun j hj => by have := (hown4.lt j hj).1; omega);clear hgrow5)
     rw [<- HBE.out] at hown5;go_wp2_with fail;go_meet;exact ⟨n + 1, Nat.le_refl _, HLE, hown5, hbr5⟩
   case rest =>
   obtain ⟨n1, hn1, HLE1, hownc, hbrc⟩ := hcut;obtain ⟨pd, cd, rfl⟩ := ownsRow_shape hownc;obtain ⟨cr, hcr⟩ : ∃ cr, cr = decide (sx * sy < 0) := ⟨_, rfl⟩;have HCR := hid hcr;clear hcr hown4 hbr4;go_upto_region 12 with fail;go_cut [71] (fun s71 wx => s71 = .bool cr /\ ∃ nd, wx = wc.drewN nd)
   case first =>
    clear HC1 HCK HNE HDV HDS HQS HTW HX HY HST HLN HL1 hownc hbrc HLE1 hn1 HKA;go_wp2_with fail;refine (HGX.out wc).mono ?_;rintro e w5 ⟨_, rfl, rfl, nd5, rfl⟩;go_wp2_with fail;refine (HGY.out _).mono ?_;rintro e w6 ⟨_, rfl, rfl, nd6, rfl⟩;rcases HSX3.out with rfl | rfl | rfl <;> rcases HSY3.out with rfl | rfl | rfl
    all_goals
     go_wp2_with fail;go_meet;exact ⟨by rw [HCR.out]; rfl, _, rfl⟩
   case rest =>
   obtain ⟨rfl, nd6, rfl⟩ := hcut;obtain ⟨w6, hw6⟩ : ∃ X, X = wc.drewN nd6 := ⟨_, rfl⟩;have hd6 : Below wc.heap.size wc w6 := by rw [hw6]; exact below_drewN wc nd6
   rw [<- hw6];clear hw6;have hown6 := World.ownsRow.belowAll hownc hd6;have hbr6 := hbrc.trans (hd6.mono hbrc.size);clear hownc hbrc hd6;cases cr
   ·have HEL : Hid (cA (i + 1) = L1) := by
     unfold Hid;have hn : ¬ sx * sy < 0 := fun e => by have := HCR.out; rw [decide_eq_true e] at this; cases this
     rw [HST.out, HC1.out, HL1.out, if_neg hn, List.append_nil]
    have HLN' : Hid ((cA (i + 1)).length = n1) := by unfold Hid; rw [HEL.out, HLE1.out]
    rw [<- HEL.out] at hown6;go_wp2_with fail;go_roundw
    case rel => exact ⟨i + 1, n1, b2, by go_num, rfl, by omega, by omega, HLN', HSM2, hown6, hbr6⟩
    case measure => simp [RowKit.intOf]; omega
   ·have hne := HNE.out (of_decide_eq_true HCR.out.symm)
    have HEL : Hid (cA (i + 1) = L1 ++ [crossK A B z]) := by
     unfold Hid;rw [HST.out, HC1.out, HL1.out, if_pos (of_decide_eq_true HCR.out.symm), List.append_assoc]
    have HLN' : Hid ((cA (i + 1)).length = n1 + 1) := by unfold Hid; rw [HEL.out, List.length_append, HLE1.out]; rfl
    have HBE : Hid (cellsP (strP ((cA (i + 1)).map (·.1))) = cellsP (strP (L1.map (·.1))) ++ [.string (RS (towQ A.1.1 B.1.1 (x / (x - y)))), .string (RS (towQ A.1.2 B.1.2 (x / (x - y))))]) := by
     unfold Hid;rw [HEL.out, List.map_append, List.map_cons, List.map_nil, cellsPS_snoc, HCK.out]
    have HTW' := hid fun w hg => HTW.out hne w hg;have HDV' := hid fun w hg => HDV.out hne w hg;have HGD : Hid (∀ w', Below w1.heap.size w1 w' -> Good w') := fun w' hb => hg.below (hB1.trans (hb.mono hB1.size));clear HC1 HCK HNE HDV HTW HQS HX HY HGX HGY HST HL1 HCR HSX3 HSY3;generalize RS (towQ A.1.1 B.1.1 (x / (x - y))) = px at *;generalize RS (towQ A.1.2 B.1.2 (x / (x - y))) = py at *;generalize RS (x / (x - y)) = qs at *;generalize RS (x - y) = ds at *;clear hne;have h60 := hbr6.trans ((below_drewN w6 1).mono hbr6.size);have own0 := World.ownsRow.belowAll hown6 (below_drewN w6 1);have hn6 : n1 <= 6 := by omega
    clear hown6;go_upto_region 13 with fail;refine AnyL.region (S := Till 16 (fun w' => w'.cell? ⟨bc, oc + i * 2, none⟩ = some (.string (RS A.1.1)) /\ w'.cell? ⟨bc, oc + i * 2 + 1, none⟩ = some (.string (RS A.1.2)) /\ w'.cell? ⟨bc, oc + j * 2, none⟩ = some (.string (RS B.1.1)) /\ w'.cell? ⟨bc, oc + j * 2 + 1, none⟩ = some (.string (RS B.1.2))) (fun _ => True)) (by kernel_rfl) ?_;have hHeld : Till 16 (fun w' => w'.cell? ⟨bc, oc + i * 2, none⟩ = some (.string (RS A.1.1)) /\ w'.cell? ⟨bc, oc + i * 2 + 1, none⟩ = some (.string (RS A.1.2)) /\ w'.cell? ⟨bc, oc + j * 2, none⟩ = some (.string (RS B.1.1)) /\ w'.cell? ⟨bc, oc + j * 2 + 1, none⟩ = some (.string (RS B.1.2))) (fun _ => True) (Array.replicate 18 false) _ := ⟨HKA.out _ h60, fun _ => trivial⟩;refine zlk 0 hHeld ?_;try simp only [Act.put]
    refine zlk 1 hHeld ?_;try simp only [Act.put]
    refine zlk 2 hHeld ?_;try simp only [Act.put]
    refine zlk 3 hHeld ?_;try simp only [Act.put]
    refine zlk 4 hHeld ?_;try simp only [Act.put]
    refine zlk 5 hHeld ?_;try simp only [Act.put]
    refine zlk 6 hHeld ?_;try simp only [Act.put]
    refine zlk 7 hHeld ?_;try simp only [Act.put]
    refine zlk 8 hHeld ?_;try simp only [Act.put]
    refine zlk 9 hHeld ?_;try simp only [Act.put]
    refine zlk 10 hHeld ?_;try simp only [Act.put]
    refine zlk 11 hHeld ?_;try simp only [Act.put]
    refine AnyL.one (i := 12) (o := _) (by kernel_rfl) rfl (fun K hK => ?_);go_simp
    (refine (HDS.out _ (HGD.out _ h60)).mono ?_; rintro e y1 ⟨_, rfl, rfl, hy1⟩; have h61 := h60.trans (hy1.mono h60.size); have own1 := World.ownsRow.belowAll own0 hy1)
    refine hK.out _ _ ⟨HKA.out _ h61, fun hk => trivial⟩ (fun hHeld => ?_);clear hK K;try simp only [Act.put]
    refine AnyL.one (i := 13) (o := _) (by kernel_rfl) rfl (fun K hK => ?_);go_simp
    (refine (HDV'.out _ (HGD.out _ h61)).mono ?_; rintro e y2 ⟨_, rfl, rfl, hy2⟩; have h62 := h61.trans (hy2.mono h61.size); have own2 := World.ownsRow.belowAll own1 hy2)
    refine hK.out _ _ ⟨HKA.out _ h62, fun hk => trivial⟩ (fun hHeld => ?_);clear hK K;try simp only [Act.put]
    refine AnyL.one (i := 14) (o := _) (by kernel_rfl) rfl (fun K hK => ?_);go_simp
    (refine (HTW'.out _ (HGD.out _ h62)).mono ?_; rintro e y3 ⟨_, rfl, rfl, hy3⟩; have h63 := h62.trans (hy3.mono h62.size); have own3 := World.ownsRow.belowAll own2 hy3)
    refine hK.out _ _ ⟨HKA.out _ h63, fun hk => trivial⟩ (fun hHeld => ?_);clear hK K;try simp only [Act.put]
    refine AnyL.one (i := 15) (o := _) (by kernel_rfl) rfl (fun K hK => ?_);go_simp;refine hK.out _ _ ⟨HKA.out _ (h63.alloc h63.size _), fun hk => trivial⟩ (fun hHeld => ?_);clear hK K;try simp only [Act.put]
    refine AnyL.one (i := 16) (o := _) (by kernel_rfl) rfl (fun K hK => ?_)
    (rw [if_pos (by simp [Region.wanted])]; refine wp_append_own _ (.tmp 72) (.tmp 87) 35 (by rfl) w1.heap.size 33 i0 (.agg #[.string ⟨#[]⟩, .string ⟨#[]⟩]) 2 32 Tryz.underlying35 hi hzz0 hzz1 hzz2 rfl (by decide) _ _ _ (by simp [Act.eval]) (own3.alloc _) ⟨y3.heap.size, 0, none⟩ 1 1 [.string px, .string py] (by simp [Act.eval]) rfl (cell_two _ _ _ _) (two_str _ _) (by unfold maxLen; omega) (by omega) (by have := h63.size; simp; omega) ?_; intro v8 w8 hown8 hgr8 _; have h68 := (h63.alloc h63.size (.cells #[.string px, .string py] 33)).grown hgr8 (by have := h63.size; simp; omega) (fun j hj => by have := (own3.lt j hj).1; omega))
    refine hK.out _ _ ⟨HKA.out _ h68, fun hk => trivial⟩ (fun hHeld => ?_);clear hK K;try simp only [Act.put]
    refine AnyL.take (i := 17) (oi := _) (v := ?_) rfl (by kernel_rfl) (by kernel_rfl) (by kernel_rfl) (by decide) (fun _ _ _ h => h) (Or.inl ⟨by rfl, ?_⟩) ⟨hHeld.1, fun hk => (by simp at hk)⟩ ?_;rotate_left
    ·intro w hSw; (try dsimp only at hSw); first | (go_simp; done) | (go_simp; with_reducible rfl)
    try simp only [Act.put]
    refine AnyL.done (by kernel_rfl) ?_ _;rw [<- HBE.out] at hown8;clear own0 own1 own2 own3 hgr8 hy1 hy2 hy3 h60 h61 h62 h63 HKA;go_wp2_with fail;go_roundw
    case rel => exact ⟨i + 1, n1 + 1, b2, by go_num, rfl, by omega, by omega, HLN', HSM2, hown8, h68⟩
    case measure => simp [RowKit.intOf]; omega
  ·obtain rfl : i = 3 := by omega
   cases b
   ·have HE := hid (HE3.out.2.2 HSM.out.symm)
    go_wp2_with fail;go_ret;exact ⟨_, rfl, .inl ⟨HE.out, rfl⟩, hBr⟩
   ·have HE := hid (HE3.out.2.1 HSM.out.symm)
    have HN : Hid (PT ≠ []) := by unfold Hid; rw [HE.out]; exact HE3.out.1 HSM.out.symm
    have HRD : Hid (RdP wr (.slice p5 n c5) (strP (PT.map (·.1)))) := by
     have h1 := RdC.of_owns hown;have h2 : n = (strP (PT.map (·.1))).length := by rw [strP_length, List.length_map, HE.out]; exact HLN.out.symm
     unfold Hid RdP;rw [<- h2, HE.out];exact h1
    clear hown;go_wp2_with fail;refine (HBG.out wr _ (List.length_pos_iff.2 HN.out) HRD.out hgr).mono ?_;rintro e w9 ⟨_, rfl, ⟨nb, hnb, hrb⟩, hb9⟩;have HNB : Hid (nb < PT.length) := by unfold Hid; rw [List.length_map] at hnb; exact hnb
    have HRB := hid hrb;clear hnb hrb HRD;go_wp2_with fail;go_ret;exact ⟨_, rfl, .inr ⟨HN.out, nb, HNB.out, HRB.out⟩, hBr.trans (hb9.mono hBr.size)⟩
end Go.Proofs.YtegiemcnfbchoaaGreatDoor
