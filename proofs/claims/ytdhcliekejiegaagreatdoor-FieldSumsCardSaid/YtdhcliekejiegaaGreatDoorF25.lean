import Derived.Test.YtdhcliekejiegaaGreatDoorF23
import Derived.BigRegion
set_option maxHeartbeats 8000000
set_option maxRecDepth 100000
namespace Go.Proofs.YtdhcliekejiegaaGreatDoor
open Go.RowKit Go.Lib
theorem fieldSums_wrong (w : World) (kz s0 s1 : Int) (half : Bool) (a0 a1 a2 a3 a4 a5 : Int) (ah : Bool) (b0 b1 b2 b3 b4 b5 : Int) (bh : Bool) (ks : ByteArray) (hks : ks.size ≤ 40) (P : List PtQ) (T : List Tri) (F G : List Rat) (n : Nat) (hF : F.length = n) (hG : G.length = n) (hn0 : 0 < n) (hn6 : n ≤ 6) (zF : ∀ q ∈ F, Sz 2 q) (zG : ∀ q ∈ G, Sz 2 q)
 (HMK : Hid (∀ w, Good w → Calls Tryz.prog 9 #[.agg #[.int .u8 kz, .int .i8 s0, .int .i8 s1, .bool half]] w (Ret (fun r w' => ∃ vp vt, r = .agg #[vp, vt] ∧ RdP w' vp (strP P) ∧ RdT w' vt T) w)))
 (HMF : Hid (∀ w vp vt, RdP w vp (strP P) → RdT w vt T → Good w → Calls Tryz.prog 20 #[.agg #[vp, vt], .agg #[.int .i8 a0, .int .i8 a1, .int .i8 a2, .int .i8 a3, .int .i8 a4, .int .i8 a5, .bool ah]] w (Ret (fun r w' => FieldIn w' vp vt r P T 2 F) w)))
 (HMG : Hid (∀ w vp vt, RdP w vp (strP P) → RdT w vt T → Good w → Calls Tryz.prog 20 #[.agg #[vp, vt], .agg #[.int .i8 b0, .int .i8 b1, .int .i8 b2, .int .i8 b3, .int .i8 b4, .int .i8 b5, .bool bh]] w (Ret (fun r w' => FieldIn w' vp vt r P T 2 G) w)))
 (HSC : Hid (∀ w vp vt vf, FieldIn w vp vt vf P T 2 F → Good w → Calls Tryz.prog 36 #[.agg #[vp, vt], vf, .string (ks)] w (Ret (fun r _ => r = .tuple #[.slice none 0 0, .int .i64 2]) w)))
 (HRK : Hid (∀ w, Good w → Calls Tryz.prog 32 #[.string (ks)] w (Ret (fun r _ => r = .bool false) w))) (hg : Good w) :
 Calls Tryz.prog 7 #[.agg #[.int .u8 kz, .int .i8 s0, .int .i8 s1, .bool half, .int .i8 a0, .int .i8 a1, .int .i8 a2, .int .i8 a3, .int .i8 a4, .int .i8 a5, .bool ah, .int .i8 b0, .int .i8 b1, .int .i8 b2, .int .i8 b3, .int .i8 b4, .int .i8 b5, .bool bh], .string (ks)] w (Ret (fun r _ => r = .bool true) w) := by
 have HAD : Hid (∀ w vp vt vf vg, FieldIn w vp vt vf P T 2 F → FieldIn w vp vt vg P T 2 G → Good w → Calls Tryz.prog 34 #[.agg #[vp, vt], vf, vg] w (Ret (fun r w' => ∃ v, r = .tuple #[v, .int .i64 0] ∧ RdQ w' v (sumQ F G)) w)) := fun w vp vt vf vg h1 h2 hg => (fadd_ok w vp vt vf vg P T 2 F G h1 h2 (fun q hq => (sumQ_Sz zF zG q hq).mono (by omega)) hg).mono (by
  rintro e w' ⟨r, rfl, ⟨v, rfl, h, -⟩, hb⟩
  exact ⟨_, rfl, ⟨v, rfl, h⟩, hb⟩)
 have HBL : Hid (∀ w vp vt vf vg, FieldIn w vp vt vf P T 2 F → FieldIn w vp vt vg P T 2 G → Good w → Calls Tryz.prog 37 #[.agg #[vp, vt], vf, vg] w (Ret (fun r _ => r = .tuple #[.bool (belowB F G), .int .i64 0]) w)) := fun w vp vt vf vg h1 h2 hg => fbelow_ok w vp vt vf vg P T 2 F G h1 h2 hg
 have HRG : Hid (∀ w vp vt vf, FieldIn w vp vt vf P T 2 F → Good w → Calls Tryz.prog 38 #[.agg #[vp, vt], vf] w (Ret (fun r _ => r = .tuple #[.string (RS (lowQ F)), .string (RS (highQ F)), .int .i64 0]) w)) := fun w vp vt vf h1 hg => range_ok w vp vt vf P T 2 F h1 (by intro e; rw [e] at hF; simp at hF; omega) hg
 have HZF : Hid (∀ z : Int, Sz 2 (hI F z)) := fun z => hI_Sz (by omega) zF z
 have HZG : Hid (∀ z : Int, Sz 2 (hI G z)) := fun z => hI_Sz (by omega) zG z
 have HZL : Hid (∀ i, Sz 2 (lowTo F i)) := fun i => lowTo_Sz (by omega) zF i
 have HZH : Hid (∀ i, Sz 2 (highTo F i)) := fun i => highTo_Sz (by omega) zF i
 have HSL : Hid ((sumQ F G).length = n) := by unfold Hid; rw [sumQ_length _ _ (by omega), hG]
 have HTS : Hid (∀ i, i < n → (sumQ F G).take (i + 1) = (sumQ F G).take i ++ [hI F i + hI G i]) := fun i hi => take_snoc _ _ _ (by rw [sumQ_get F G i (by omega) (by omega), hI_nat F i (by omega), hI_nat G i (by omega)])
 have HLW : Hid (lowTo F n = lowQ F) := by unfold Hid; rw [← hF]; exact lowTo_all F (List.ne_nil_of_length_pos (by omega))
 have HHW : Hid (highTo F n = highQ F) := by unfold Hid; rw [← hF]; exact highTo_all F (List.ne_nil_of_length_pos (by omega))
 have HBW : Hid (belowTo F G n = belowB F G) := by unfold Hid; rw [← hF]; exact belowTo_all F G (by omega)
 have HL0 : Hid (lowTo F 0 = hI F 0) := rfl
 have HH0 : Hid (highTo F 0 = hI F 0) := rfl
 have HB0 : Hid (belowTo F G 0 = true) := rfl
 have HLS : Hid (∀ i : Nat, lowTo F (i + 1) = if cmpQ (hI F i) (lowTo F i) < 0 then hI F i else lowTo F i) := fun _ => rfl
 have HHS : Hid (∀ i : Nat, highTo F (i + 1) = if 0 < cmpQ (hI F i) (highTo F i) then hI F i else highTo F i) := fun _ => rfl
 have HBS : Hid (∀ i : Nat, belowTo F G (i + 1) = (belowTo F G i && decide (cmpQ (hI F i) (hI G i) ≤ 0))) := fun _ => rfl
 clear zF zG
 go_enter Tryz.func7, Tryz.ntmps7
 go_wp2_with fail
 obtain ⟨W, hW⟩ : ∃ W, W = w.alloc (.cells #[.int .u8 kz, .int .i8 s0, .int .i8 s1, .bool half, .int .i8 a0, .int .i8 a1, .int .i8 a2, .int .i8 a3, .int .i8 a4, .int .i8 a5, .bool ah, .int .i8 b0, .int .i8 b1, .int .i8 b2, .int .i8 b3, .int .i8 b4, .int .i8 b5, .bool bh] 57) := ⟨_, rfl⟩
 have hB : Below w.heap.size w W := by rw [hW]; exact zal _ _
 have bx : BoxN W w.heap.size 57 [.int .u8 kz, .int .i8 s0, .int .i8 s1, .bool half, .int .i8 a0, .int .i8 a1, .int .i8 a2, .int .i8 a3, .int .i8 a4, .int .i8 a5, .bool ah, .int .i8 b0, .int .i8 b1, .int .i8 b2, .int .i8 b3, .int .i8 b4, .int .i8 b5, .bool bh] := by rw [hW]; exact BoxN.new _ _ _ _ rfl
 rw [← hW]
 clear hW
 refine (known13_any W (hg.below hB)).mono ?_
 rintro e o1 ⟨_, rfl, rfl, hb1⟩
 have hB1 := hB.trans (hb1.mono hB.size)
 have bx1 := bx.below hb1 bx.lt
 clear hb1 hB bx
 have k0 := bx1.cell 0 rfl
 have k1 := bx1.cell 1 rfl
 have k2 := bx1.cell 2 rfl
 have k3 := bx1.cell 3 rfl
 have h1d : decide ((40 : Int) < ((ks).size : Int)) = false := decide_eq_false (by omega)
 go_wp2_with fail
 refine (HMK.out o1 (hg.below hB1)).mono ?_
 rintro e o2 ⟨_, rfl, ⟨vp, vt, rfl, hp, ht⟩, hb2⟩
 have hB2 := hB1.trans (hb2.mono hB1.size)
 have bx2 := bx1.below hb2 bx1.lt
 obtain ⟨pp, cp, rfl, -, -, -⟩ := hp.open
 obtain ⟨pt, ct, rfl, -, -, -⟩ := ht.open
 rw [strP_length] at *
 clear hb2 hB1 bx1 k0 k1 k2 k3 HMK h1d
 go_upto_region 4 with fail
 obtain ⟨o3, ho3⟩ : ∃ W, W = o2.alloc (.cells #[.slice pp P.length cp, .slice pt T.length ct] 30) := ⟨_, rfl⟩
 have h23 : Below o2.heap.size o2 o3 := by rw [ho3]; exact zal _ _
 have zb5 : BoxN o3 o2.heap.size 30 [.slice pp P.length cp, .slice pt T.length ct] := by rw [ho3]; exact BoxN.new _ _ _ _ rfl
 have hB3 := hB2.trans (h23.mono hB2.size)
 have bx3 := bx2.below h23 bx2.lt
 rw [← ho3]
 clear ho3
 have m0 := zb5.cell 0 rfl
 have m1 := zb5.cell 1 rfl
 have k4 := bx3.cell 4 rfl
 have k5 := bx3.cell 5 rfl
 have k6 := bx3.cell 6 rfl
 have k7 := bx3.cell 7 rfl
 have k8 := bx3.cell 8 rfl
 have k9 := bx3.cell 9 rfl
 have k10 := bx3.cell 10 rfl
 have k11 := bx3.cell 11 rfl
 have k12 := bx3.cell 12 rfl
 have k13 := bx3.cell 13 rfl
 have k14 := bx3.cell 14 rfl
 have k15 := bx3.cell 15 rfl
 have k16 := bx3.cell 16 rfl
 have k17 := bx3.cell 17 rfl
 have lm := zb5.lt
 have lx := bx3.lt
 have HPT : Hid (∀ w', Below o3.heap.size o3 w' → RdP w' (.slice pp P.length cp) (strP P) ∧ RdT w' (.slice pt T.length ct) T) := fun w' hb => ⟨RdC.below (RdC.below hp h23) hb, RdC.below (RdC.below ht h23) hb⟩
 have hgd : Good o3.drew := (hg.below hB3).drewN 1
 go_cut [6, 7] (fun s6 s7 wx => ∃ (pf pg : Option Addr) (cf cg : Nat), s6 = .slice pf n cf ∧ s7 = .slice pg n cg ∧ FieldIn wx (.slice pp P.length cp) (.slice pt T.length ct) (.slice pf n cf) P T 2 F ∧ FieldIn wx (.slice pp P.length cp) (.slice pt T.length ct) (.slice pg n cg) P T 2 G ∧ Below o3.heap.size o3 wx)
 case first =>
  go_region_held3 (fun w' => w'.cell? ⟨o2.heap.size, 0, none⟩ = some (.slice pp P.length cp) ∧ w'.cell? ⟨o2.heap.size, 1, none⟩ = some (.slice pt T.length ct) ∧ w'.cell? ⟨w.heap.size, 4, none⟩ = some (.int .i8 a0) ∧ w'.cell? ⟨w.heap.size, 5, none⟩ = some (.int .i8 a1) ∧ w'.cell? ⟨w.heap.size, 6, none⟩ = some (.int .i8 a2) ∧ w'.cell? ⟨w.heap.size, 7, none⟩ = some (.int .i8 a3) ∧ w'.cell? ⟨w.heap.size, 8, none⟩ = some (.int .i8 a4) ∧ w'.cell? ⟨w.heap.size, 9, none⟩ = some (.int .i8 a5) ∧ w'.cell? ⟨w.heap.size, 10, none⟩ = some (.bool ah) ∧ w'.cell? ⟨w.heap.size, 11, none⟩ = some (.int .i8 b0) ∧ w'.cell? ⟨w.heap.size, 12, none⟩ = some (.int .i8 b1) ∧ w'.cell? ⟨w.heap.size, 13, none⟩ = some (.int .i8 b2) ∧ w'.cell? ⟨w.heap.size, 14, none⟩ = some (.int .i8 b3) ∧ w'.cell? ⟨w.heap.size, 15, none⟩ = some (.int .i8 b4) ∧ w'.cell? ⟨w.heap.size, 16, none⟩ = some (.int .i8 b5) ∧ w'.cell? ⟨w.heap.size, 17, none⟩ = some (.bool bh))
   (first | exact ⟨m0, m1, k4, k5, k6, k7, k8, k9, k10, k11, k12, k13, k14, k15, k16, k17⟩ | exact ⟨p_1_0, p_1_1, p_1_2, p_1_3, p_1_4, p_1_5, p_1_6, p_1_7, p_1_8, p_1_9, p_1_10, p_1_11, p_1_12, p_1_13, p_1_14, p_1_15⟩ | exact ⟨p_2_0, p_2_1, p_2_2, p_2_3, p_2_4, p_2_5, p_2_6, p_2_7, p_2_8, p_2_9, p_2_10, p_2_11, p_2_12, p_2_13, p_2_14, p_2_15⟩)
   (first
   | (go_at_call 20; refine (HMG.out _ _ _ (HPT.out _ ((below_drewN o3 1).trans (pb1.mono (Nat.le_refl _)))).1 (HPT.out _ ((below_drewN o3 1).trans (pb1.mono (Nat.le_refl _)))).2 pg1).mono ?_; rintro e pw2 ⟨vg, rfl, hG2, pb2⟩
      have p_2_0 := zct pb2 p_1_0
      have p_2_1 := zct pb2 p_1_1
      have p_2_2 := zct pb2 p_1_2
      have p_2_3 := zct pb2 p_1_3
      have p_2_4 := zct pb2 p_1_4
      have p_2_5 := zct pb2 p_1_5
      have p_2_6 := zct pb2 p_1_6
      have p_2_7 := zct pb2 p_1_7
      have p_2_8 := zct pb2 p_1_8
      have p_2_9 := zct pb2 p_1_9
      have p_2_10 := zct pb2 p_1_10
      have p_2_11 := zct pb2 p_1_11
      have p_2_12 := zct pb2 p_1_12
      have p_2_13 := zct pb2 p_1_13
      have p_2_14 := zct pb2 p_1_14
      have p_2_15 := zct pb2 p_1_15
      have ps2 : pw1.heap.size ≤ pw2.heap.size := pb2.size
      have pg2 : Good pw2 := pg1.below pb2
      have HG2 := Lib.hid hG2)
   | (go_at_call 20; refine (HMF.out _ _ _ (HPT.out _ (below_drewN o3 1)).1 (HPT.out _ (below_drewN o3 1)).2 hgd).mono ?_; rintro e pw1 ⟨vf, rfl, hF1, pb1⟩
      have p_1_0 := zct pb1 m0
      have p_1_1 := zct pb1 m1
      have p_1_2 := zct pb1 k4
      have p_1_3 := zct pb1 k5
      have p_1_4 := zct pb1 k6
      have p_1_5 := zct pb1 k7
      have p_1_6 := zct pb1 k8
      have p_1_7 := zct pb1 k9
      have p_1_8 := zct pb1 k10
      have p_1_9 := zct pb1 k11
      have p_1_10 := zct pb1 k12
      have p_1_11 := zct pb1 k13
      have p_1_12 := zct pb1 k14
      have p_1_13 := zct pb1 k15
      have p_1_14 := zct pb1 k16
      have p_1_15 := zct pb1 k17
      have ps1 : o3.heap.size ≤ pw1.heap.size := pb1.size
      have pg1 : Good pw1 := hgd.below pb1
      have HF1 := Lib.hid hF1))
  have pB : Below o3.heap.size o3 pw2 := zbt (zbt (below_drewN o3 1) pb1) pb2
  have hF2 := HF1.out.below pb2
  obtain ⟨_, _, _, _, pf, cf, -, -, rfl⟩ := hF2.open
  have hG2' := HG2.out
  obtain ⟨_, _, _, _, pg, cg, -, -, rfl⟩ := hG2'.open
  rw [hF] at *
  rw [hG] at *
  go_wp2_with fail
  go_meet
  exact ⟨pf, pg, cf, cg, rfl, rfl, hF2, hG2', pB⟩
 case rest =>
 obtain ⟨pf, pg, cf, cg, rfl, rfl, hF4, hG4, hb4⟩ := hcut
 have hB4 := hB3.trans (hb4.mono hB3.size)
 have zb54 := zb5.below hb4 zb5.lt
 have HF4 := Lib.hid hF4
 have HG4 := Lib.hid hG4
 clear m0 m1 k4 k5 k6 k7 k8 k9 k10 k11 k12 k13 k14 k15 k16 k17 hb4 hB3 bx3 bx2 zb5 hp ht h23 hB2 hF4 hG4 HPT hgd lm lx HMF HMG
 have m0 := zb54.cell 0 rfl
 have m1 := zb54.cell 1 rfl
 go_wp2_with fail
 refine (HAD.out wc _ _ _ _ HF4.out HG4.out (hg.below hB4)).mono ?_
 rintro e o5 ⟨_, rfl, ⟨v8, rfl, hs8⟩, hb5⟩
 have hB5 := hB4.trans (hb5.mono hB4.size)
 have zb55 := zb54.below hb5 zb54.lt
 have HF5 := Lib.hid (HF4.out.below hb5)
 have HG5 := Lib.hid (HG4.out.below hb5)
 have HS5 := Lib.hid hs8
 obtain ⟨p8, c8, rfl, -, -, -⟩ := hs8.open
 clear m0 m1 hb5 zb54 HF4 HG4 HAD hs8 hB4
 have m0 := zb55.cell 0 rfl
 have m1 := zb55.cell 1 rfl
 go_wp2_with fail
 refine (HSC.out o5 _ _ _ HF5.out (hg.below hB5)).mono ?_
 rintro e o6 ⟨_, rfl, rfl, hb6⟩
 have hB6 := hB5.trans (hb6.mono hB5.size)
 have zb56 := zb55.below hb6 zb55.lt
 have HF6 := Lib.hid (HF5.out.below hb6)
 have HG6 := Lib.hid (HG5.out.below hb6)
 have HS6 := Lib.hid (RdC.below HS5.out hb6)
 clear m0 m1 hb6 zb55 HF5 HG5 HSC HS5 hB5
 have m0 := zb56.cell 0 rfl
 have m1 := zb56.cell 1 rfl
 go_wp2_with fail
 refine (HBL.out o6 _ _ _ _ HF6.out HG6.out (hg.below hB6)).mono ?_
 rintro e o7 ⟨_, rfl, rfl, hb7⟩
 have hB7 := hB6.trans (hb7.mono hB6.size)
 have zb57 := zb56.below hb7 zb56.lt
 have HF7 := Lib.hid (HF6.out.below hb7)
 have HG7 := Lib.hid (HG6.out.below hb7)
 have HS7 := Lib.hid (RdC.below HS6.out hb7)
 clear m0 m1 hb7 zb56 HF6 HG6 HBL HS6 hB6
 have m0 := zb57.cell 0 rfl
 have m1 := zb57.cell 1 rfl
 go_wp2_with fail
 refine (HRG.out o7 _ _ _ HF7.out (hg.below hB7)).mono ?_
 rintro e o8 ⟨_, rfl, rfl, hb8⟩
 have hB8 := hB7.trans (hb8.mono hB7.size)
 have hF8 := HF7.out.below hb8
 have hG8 := HG7.out.below hb8
 have HS8 := Lib.hid (RdC.below HS7.out hb8)
 have hg8 := hg.below hB8
 have HFC : Hid (∀ i : Nat, i < n → ∃ bf of : Nat, pf = some ⟨bf, of, none⟩ ∧ bf < o8.heap.size ∧ o8.cell? ⟨bf, of + i, none⟩ = some (.string (RS (hI F i)))) := fun i hi => by
  obtain ⟨b, off, c', hv, hb, hc⟩ := hF8.hgt i (by omega)
  injection hv with hv1 hv2 hv3
  clear hv2
  exact ⟨b, off, hv1, hb, hc⟩
 have HGC : Hid (∀ i : Nat, i < n → ∃ bf of : Nat, pg = some ⟨bf, of, none⟩ ∧ bf < o8.heap.size ∧ o8.cell? ⟨bf, of + i, none⟩ = some (.string (RS (hI G i)))) := fun i hi => by
  obtain ⟨b, off, c', hv, hb, hc⟩ := hG8.hgt i (by omega)
  injection hv with hv1 hv2 hv3
  clear hv2
  exact ⟨b, off, hv1, hb, hc⟩
 clear m0 m1 hb8 zb57 HF7 HG7 HRG HS7 hB7 hF8 hG8 hF hG
 rw [← HLW.out, ← HHW.out, ← HBW.out]
 clear HLW HHW HBW
 generalize lowTo F = LO at *
 generalize highTo F = HI at *
 generalize belowTo F G = BE at *
 generalize sumQ F G = SL at *
 have HFP : Hid (∃ bf of : Nat, pf = some ⟨bf, of, none⟩ ∧ bf < o8.heap.size ∧ o8.cell? ⟨bf, of, none⟩ = some (.string (RS (hI F 0)))) := by
  obtain ⟨bf, of, h1, h2, h3⟩ := HFC.out 0 hn0
  exact ⟨bf, of, h1, h2, h3⟩
 obtain ⟨i0, hi, hz0, hz1, hz2⟩ := info_parts info_str
 go_upto_region 11 with fail
 go_cut [20, 21] (fun s20 s21 wx => s20 = .string (RS (hI F 0)) ∧ s21 = .string (RS (hI F 0)) ∧ Below o8.heap.size o8 wx)
 case first =>
  obtain ⟨bf, of, rfl, hbf, c0⟩ := HFP.out
  have hnz : (0 : Int) < (n : Int) := by omega
  go_region
  all_goals
   go_wp2_with fail
   go_meet
   exact ⟨rfl, rfl, below_drewN o8 1⟩
 case rest =>
 obtain ⟨rfl, rfl, hbc⟩ := hcut
 clear HFP
 go_wp2_with fail
 go_loopw [17, 18, 19, 20, 21, 22] (fun t17 t18 t19 t20 t21 t22 wr => ∃ (i : Nat), t22 = .int .i64 i ∧ i ≤ n ∧ wr.ownsRow o8.heap.size 32 1 t17 i ((SL.take i).map fun q => Value.string (RS q)) ∧ t18 = .slice none 0 0 ∧ t19 = .bool (BE i) ∧ t20 = .string (RS (LO i)) ∧ t21 = .string (RS (HI i)) ∧ Below o8.heap.size o8 wr) (fun _ _ _ _ _ t22 _ => n - (RowKit.intOf t22).toNat)
 case atStart => exact ⟨0, rfl, Nat.zero_le _, World.ownsRow_nil _ _ _ _, rfl, by rw [HB0.out], by rw [HL0.out], by rw [HH0.out], hbc⟩
 case round =>
  obtain ⟨i, rfl, hin, ow, rfl, rfl, rfl, rfl, hbr⟩ := hrel
  obtain ⟨p17, c17, rfl⟩ := ownsRow_shape ow
  have hBr := hB8.trans (hbr.mono hB8.size)
  have hzr := hbr.size
  rcases Nat.lt_or_ge i n with hlt | hlt
  ·obtain ⟨bf, of, rfl, hbf, f0⟩ := HFC.out i hlt
   obtain ⟨bg, og, rfl, hbg, g0⟩ := HGC.out i hlt
   have hiz : (i : Int) < (n : Int) := by omega
   have hw1 : IntKind.i64.wrap ((i : Int) + 1) = (i : Int) + 1 := IntWalk.i64_in _ (by omega)
   have HT1 := Lib.hid (HTS.out i hlt)
   have HB1 := Lib.hid (HBS.out i)
   have HL1 := Lib.hid (HLS.out i)
   have HH1 := Lib.hid (HHS.out i)
   have HZx := Lib.hid (HZF.out i)
   have HZy := Lib.hid (HZG.out i)
   have HZl := Lib.hid (HZL.out i)
   have HZh := Lib.hid (HZH.out i)
   generalize hI F i = x at *
   generalize hI G i = y at *
   have HCF : Hid (∀ w', Below o8.heap.size o8 w' → w'.cell? ⟨bf, of + i, none⟩ = some (.string (RS x))) := fun w' hb => (zcq hb hbf f0 :)
   have HCG : Hid (∀ w', Below o8.heap.size o8 w' → w'.cell? ⟨bg, og + i, none⟩ = some (.string (RS y))) := fun w' hb => (zcq hb hbg g0 :)
   have HA : Hid (∀ w, Good w → _) := fun w hg => addQ_any x y 2 (by omega) (by omega) HZx.out HZy.out w hg
   have HC1 : Hid (∀ w, Good w → _) := fun w hg => compareQ_any x y 2 (by omega) (by omega) HZx.out HZy.out w hg
   have HC2 : Hid (∀ w, Good w → _) := fun w hg => compareQ_any x (LO i) 2 (by omega) (by omega) HZx.out HZl.out w hg
   have HC3 : Hid (∀ w, Good w → _) := fun w hg => compareQ_any x (HI i) 2 (by omega) (by omega) HZx.out HZh.out w hg
   have hgd : Good wr.drew := (hg.below hBr).drewN 1
   have x0 := HCF.out _ hbr
   have y0 := HCG.out _ hbr
   have hbd : Below o8.heap.size o8 wr.drew := hbr.trans ((below_drewN wr 1).mono hzr)
   clear f0 g0
   go_upto_region 15 with fail
   go_cut [17] (fun s17 wx => wx.ownsRow o8.heap.size 32 1 s17 (i + 1) ((SL.take (i + 1)).map fun q => Value.string (RS q)) ∧ True ∧ Below o8.heap.size o8 wx)
   case first =>
    go_region_held3 (fun w' => w'.cell? ⟨bf, of + i, none⟩ = some (.string (RS x)) ∧ w'.cell? ⟨bg, og + i, none⟩ = some (.string (RS y)))
     (first | exact ⟨x0, y0⟩ | exact ⟨x4, y4⟩ | exact ⟨cell_alloc_l _ x4, cell_alloc_l _ y4⟩ | exact ⟨x5, y5⟩)
     (first
       | (refine step_append_lies _ (by rfl) (.tmp 82) (.tmp 92) 61 (by rfl) o8.heap.size 32 i0 (.string ⟨#[]⟩) 1 16 Tryz.underlying61 hi hz0 hz1 hz2 rfl (by decide) _ i _ (by simp [Act.eval]) (ow4.alloc _) ⟨w4.heap.size, 0, none⟩ 1 1 [.string (RS (x + y))] (by simp [Act.eval]) rfl (cell_one_str _ _ _) (one_cell_str _) (by omega) (by unfold maxLen; omega) (by omega) (by simp; omega) _ rfl ?_
          intro g5 cap5 w5 ow5 hgr5 hat5 hlt5
          have hb5 : Below o8.heap.size o8 w5 := (hb4b.alloc (by omega) _).grown hgr5 (by simp; omega) (fun j hj => by have := (ow4.lt j hj).1; omega)
          have x5 := HCF.out _ hb5
          have y5 := HCG.out _ hb5)
       | (go_at_call 28; refine (HA.out _ hgd).mono ?_; rintro e w4 ⟨_, rfl, rfl, hb4⟩
          have hb4b : Below o8.heap.size o8 w4 := hbd.trans (hb4.mono (by show o8.heap.size ≤ wr.heap.size; omega))
          have ow4 := World.ownsRow.belowAll ow ((below_drewN wr 1).trans hb4)
          have hz4 : wr.heap.size ≤ w4.heap.size := hb4.size
          have x4 := HCF.out _ hb4b
          have y4 := HCG.out _ hb4b))
    all_goals
     go_wp2_with fail
     go_meet
     exact ⟨by rw [HT1.out, List.map_append]; exact ow5, trivial, hb5⟩
   case rest =>
   obtain ⟨ow1, -, hb1⟩ := hcut
   obtain ⟨p17', c17', rfl⟩ := ownsRow_shape ow1
   have hB1 := hB8.trans (hb1.mono hB8.size)
   clear ow hbr hBr hzr x0 y0 hbd hgd HA
   go_wp2_with fail
   refine (HRK.out wc (hg.below hB1)).mono ?_
   rintro e w6 ⟨_, rfl, rfl, hb6⟩
   have hb16 := hb1.trans (hb6.mono hb1.size)
   have ow6 := World.ownsRow.belowAll ow1 hb6
   clear ow1 hb6 hb1 hB1
   have hb8 := hb16
   have ow17 := ow6
   clear hb16 ow6
   have hB8' := hB8.trans (hb8.mono hB8.size)
   have x8 := HCF.out _ hb8
   have y8 := HCG.out _ hb8
   have hgd : Good w6.drew := (hg.below hB8').drewN 1
   have hz8 := hb8.size
   go_upto_region 18 with fail
   go_cut [19] (fun s19 wx => s19 = .bool (BE (i + 1)) ∧ Below w6.heap.size w6 wx)
   case first =>
    cases hbe : BE i
    ·have HBF : Hid (BE (i + 1) = false) := by unfold Hid; rw [HB1.out, hbe]; rfl
     go_region
     all_goals
      go_wp2_with fail
      go_meet
      exact ⟨congrArg Value.bool HBF.out.symm, below_drewN _ 1⟩
    ·have HBF : Hid (BE (i + 1) = decide (cmpQ x y ≤ 0)) := by unfold Hid; rw [HB1.out, hbe]; rfl
     go_region_held3 (fun w' => w'.cell? ⟨bf, of + i, none⟩ = some (.string (RS x)) ∧ w'.cell? ⟨bg, og + i, none⟩ = some (.string (RS y)))
      (first | exact ⟨x8, y8⟩ | exact ⟨q_1_0, q_1_1⟩)
      (first
      | (go_at_call 40; refine (HC1.out _ hgd).mono ?_; rintro e qw1 ⟨_, rfl, rfl, qb1⟩
         have q_1_0 := zct qb1 x8
         have q_1_1 := zct qb1 y8
         have qs1 : w6.heap.size ≤ qw1.heap.size := qb1.size
         have qg1 : Good qw1 := hgd.below qb1))
     have qB : Below w6.heap.size w6 qw1 := zbt (below_drewN w6 1) qb1
     go_wp2_with fail
     go_meet
     exact ⟨congrArg Value.bool HBF.out.symm, qB⟩
   case rest =>
   obtain ⟨rfl, hb9⟩ := hcut
   have hb19 := hb8.trans (hb9.mono hb8.size)
   have hB9 := hB8.trans (hb19.mono hB8.size)
   have ow179 := World.ownsRow.belowAll ow17 hb9
   have x9 := HCF.out _ hb19
   clear ow17 hb8 hb9 hB8' x8 y8 hgd hz8 HC1
   go_wp2_with fail
   refine (HC2.out _ (hg.below hB9)).mono ?_
   rintro e w10 ⟨_, rfl, rfl, hb10⟩
   have hb20 := hb19.trans (hb10.mono hb19.size)
   have hB10 := hB8.trans (hb20.mono hB8.size)
   have ow1710 := World.ownsRow.belowAll ow179 hb10
   have x10 := HCF.out _ hb20
   clear ow179 hb10 hb19 hB9 x9 HC2
   go_upto_if 124 with fail
   go_cut [20] (fun s20 wx => s20 = .string (RS (LO (i + 1))) ∧ wx = w10)
   case first =>
    by_cases hc : cmpQ x (LO i) < 0
    ·have hcd : decide (cmpQ x (LO i) < 0) = true := decide_eq_true hc
     have HLN : Hid (LO (i + 1) = x) := by unfold Hid; rw [HL1.out, if_pos hc]
     clear hc HL1
     generalize cmpQ x (LO i) = cz at *
     go_wp2_with fail
     all_goals first
      | (exfalso; have hx := of_decide_eq_true hcd; omega)
      | (go_meet; exact ⟨congrArg (fun q => Value.string (RS q)) HLN.out.symm, rfl⟩)
    ·have hcd : decide (cmpQ x (LO i) < 0) = false := decide_eq_false hc
     have HLN : Hid (LO (i + 1) = LO i) := by unfold Hid; rw [HL1.out, if_neg hc]
     clear hc HL1
     generalize cmpQ x (LO i) = cz at *
     go_wp2_with fail
     all_goals first
      | (exfalso; have hx := of_decide_eq_false hcd; omega)
      | (go_meet; exact ⟨congrArg (fun q => Value.string (RS q)) HLN.out.symm, rfl⟩)
   case rest =>
   obtain ⟨rfl, rfl⟩ := hcut
   go_wp2_with fail
   refine (HC3.out _ (hg.below hB10)).mono ?_
   rintro e w11 ⟨_, rfl, rfl, hb11⟩
   have hb21 := hb20.trans (hb11.mono hb20.size)
   have hB11 := hB8.trans (hb21.mono hB8.size)
   have ow1711 := World.ownsRow.belowAll ow1710 hb11
   have x11 := HCF.out _ hb21
   clear ow1710 hb11 hb20 hB10 x10 HC3
   by_cases hc : 0 < cmpQ x (HI i)
   ·have hcd : decide (0 < cmpQ x (HI i)) = true := decide_eq_true hc
    have HLN : Hid (HI (i + 1) = x) := by unfold Hid; rw [HH1.out, if_pos hc]
    clear hc HH1
    generalize cmpQ x (HI i) = cz at *
    go_wp2_with fail
    go_roundw
    case rel => exact ⟨i + 1, by go_num, by omega, ow1711, rfl, rfl, rfl, congrArg (fun q => Value.string (RS q)) HLN.out.symm, hb21⟩
    case measure => simp [RowKit.intOf]; omega
   ·have hcd : decide (0 < cmpQ x (HI i)) = false := decide_eq_false hc
    have HLN : Hid (HI (i + 1) = HI i) := by unfold Hid; rw [HH1.out, if_neg hc]
    clear hc HH1
    generalize cmpQ x (HI i) = cz at *
    go_wp2_with fail
    go_roundw
    case rel => exact ⟨i + 1, by go_num, by omega, ow1711, rfl, rfl, rfl, congrArg (fun q => Value.string (RS q)) HLN.out.symm, hb21⟩
    case measure => simp [RowKit.intOf]; omega
  ·obtain rfl : i = n := by omega
   have HSW : Hid (RdQ wr (.slice p17 i c17) SL) := row_rd ow HSL.out
   have HSV : Hid (RdQ wr (.slice p8 SL.length c8) SL) := RdC.below HS8.out hbr
   have HSM : Hid (∀ w', Below wr.heap.size wr w' → Calls Tryz.prog 35 #[.slice p8 SL.length c8, .slice p17 i c17] w' (Ret (fun r _ => r = .bool true) w')) := fun w' hb => same13_true w' _ _ SL (RdC.below HSV.out hb) (RdC.below HSW.out hb) (by rw [HSL.out]; omega)
   have he3 : (BE i != BE i) = false := by simp
   clear ow
   go_wp2_with fail
   refine (HSM.out wr (Below.refl _ _)).mono ?_
   rintro e x1 ⟨_, rfl, rfl, hy1⟩
   have hY1 := hBr.trans (hy1.mono hBr.size)
   go_wp2_with fail
   refine (HRK.out x1 (hg.below hY1)).mono ?_
   rintro e x2 ⟨_, rfl, rfl, hy2⟩
   have hY2 := hY1.trans (hy2.mono hY1.size)
   have hy12 := hy1.trans (hy2.mono hy1.size)
   go_wp2_with fail
   go_ret
   exact ⟨_, rfl, rfl, hY2⟩
theorem fieldSums_all (w : World) (kz s0 s1 : Int) (half : Bool) (a0 a1 a2 a3 a4 a5 : Int) (ah : Bool) (b0 b1 b2 b3 b4 b5 : Int) (bh : Bool) (ks : ByteArray) (hk0 : 0 ≤ kz) (hk1 : kz ≤ 255) (hs0 : -128 ≤ s0 ∧ s0 ≤ 127) (hs1 : -128 ≤ s1 ∧ s1 ≤ 127) (ha : ∀ x ∈ [a0, a1, a2, a3, a4, a5], -128 ≤ x ∧ x ≤ 127) (hb : ∀ x ∈ [b0, b1, b2, b3, b4, b5], -128 ≤ x ∧ x ≤ 127) (hg : Good w) :
 Calls Tryz.prog 7 #[.agg #[.int .u8 kz, .int .i8 s0, .int .i8 s1, .bool half, .int .i8 a0, .int .i8 a1, .int .i8 a2, .int .i8 a3, .int .i8 a4, .int .i8 a5, .bool ah, .int .i8 b0, .int .i8 b1, .int .i8 b2, .int .i8 b3, .int .i8 b4, .int .i8 b5, .bool bh], .string ks] w (Ret (fun r _ => r = .bool true) w) := by
 by_cases hl : 40 < ks.size
 ·exact fieldSums_long w kz s0 s1 half a0 a1 a2 a3 a4 a5 ah b0 b1 b2 b3 b4 b5 bh ks hl hg
 have hks : ks.size ≤ 40 := by omega
 obtain ⟨kk, hk⟩ : ∃ k : Nat, kz.tmod 8 = (k : Int) := ⟨(kz.tmod 8).toNat, by have := Int.tmod_nonneg 8 hk0; omega⟩
 have HMK := Lib.hid fun w hg => make12_any w kz s0 s1 half kk hk hk0 hk1 hs0 hs1 hg
 have hP6 : (sheetP kk s0 s1 half).length ≤ 6 := by rw [sheetP_length]; exact shapeP_len kk
 have hP0 : 0 < (sheetP kk s0 s1 half).length := by
  obtain ⟨t, ht⟩ := List.exists_mem_of_ne_nil _ (sheet_ok kk s0 s1 half).some
  have := (sheet_ok kk s0 s1 half).idx t ht t.1 (by simp [idxOf])
  omega
 have hFs := heights_Sz [a0, a1, a2, a3, a4, a5] ah (sheetP kk s0 s1 half).length
 have hGs := heights_Sz [b0, b1, b2, b3, b4, b5] bh (sheetP kk s0 s1 half).length
 have HMF : ∀ (v0 v1 v2 v3 v4 v5 : Int) (h : Bool), (∀ x ∈ [v0, v1, v2, v3, v4, v5], -128 ≤ x ∧ x ≤ 127) → ∀ w vp vt, RdP w vp (strP (sheetP kk s0 s1 half)) → RdT w vt (shapeT kk) → Good w → Calls Tryz.prog 20 #[.agg #[vp, vt], .agg #[.int .i8 v0, .int .i8 v1, .int .i8 v2, .int .i8 v3, .int .i8 v4, .int .i8 v5, .bool h]] w (Ret (fun r w' => FieldIn w' vp vt r (sheetP kk s0 s1 half) (shapeT kk) 2 (heightsF [v0, v1, v2, v3, v4, v5] h (sheetP kk s0 s1 half).length)) w) := fun v0 v1 v2 v3 v4 v5 h hv w vp vt hp ht hg => by
  obtain ⟨pp, cp, rfl, -, -, -⟩ := hp.open
  rw [strP_length]
  rw [strP_length] at hp
  refine (make13_any w pp _ cp vt v0 v1 v2 v3 v4 v5 h hv hP6 hg).mono ?_
  rintro e w' ⟨r, rfl, ⟨hf, -⟩, hb⟩
  exact ⟨r, rfl, make_in (RdC.below hp hb) (RdC.below ht hb) hf, hb⟩
 have hA := HMF a0 a1 a2 a3 a4 a5 ah ha
 have hB := HMF b0 b1 b2 b3 b4 b5 bh hb
 have hFl : (heightsF [a0, a1, a2, a3, a4, a5] ah (sheetP kk s0 s1 half).length).length = (sheetP kk s0 s1 half).length := by unfold heightsF; simp
 have hGl : (heightsF [b0, b1, b2, b3, b4, b5] bh (sheetP kk s0 s1 half).length).length = (sheetP kk s0 s1 half).length := by unfold heightsF; simp
 cases hr : rightQ ks.data.toList
 ·refine fieldSums_wrong w kz s0 s1 half a0 a1 a2 a3 a4 a5 ah b0 b1 b2 b3 b4 b5 bh ks hks _ _ _ _ _ hFl hGl hP0 hP6 hFs hGs HMK (Lib.hid hA) (Lib.hid hB) (Lib.hid fun w vp vt vf h hg => fscale_number w vp vt vf _ _ 2 _ ks h (by omega) hr hg) (Lib.hid fun w hg => ?_) hg
  have := rightRQ_any ks (by omega) w hg
  rw [hr] at this
  exact this
 ·obtain ⟨c, rfl, zc⟩ := rightM hr (by omega) hks
  refine fieldSums_right w kz s0 s1 half a0 a1 a2 a3 a4 a5 ah b0 b1 b2 b3 b4 b5 bh c zc hks _ _ _ _ _ hFl hGl hP0 hP6 hFs hGs HMK (Lib.hid hA) (Lib.hid hB) (Lib.hid fun w vp vt vf h hg => fscale_ok w vp vt vf _ _ 2 _ c h (by omega) (zc.mono (by omega)) (fun q hq => (mulL_Sz hFs zc q hq).mono (by omega)) hg) (Lib.hid fun w hg => ?_) hg
  have := rightRQ_any (RS c) (by omega) w hg
  rw [hr] at this
  exact this
end Go.Proofs.YtdhcliekejiegaaGreatDoor
