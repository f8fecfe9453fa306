/- The walk over klippelaw38.ThicknessVertical. -/
import Derived.Test.YtjfjkiibmfgplaaGreatDoorZ3
import Derived.Test.YtjfjkiibmfgplaaGreatDoorW7
import Derived.Deep.MidRow
import Derived.Deep.DeepCutAuto
namespace Go.Proofs.YtjfjkiibmfgplaaGreatDoor
open Go.RowKit Go.Lib

set_option maxHeartbeats 4000000 in
set_option maxRecDepth 100000 in
/-- A text that is too long: the examples alone. -/
theorem vertical_long (w : World) (kz s0 s1 : Int) (half : Bool) (a0 a1 a2 a3 a4 a5 : Int) (ah : Bool) (b0 b1 b2 b3 b4 b5 : Int) (bh even : Bool) (add : Int) (x y : ByteArray) (hlen : 20 < x.size ∨ 20 < y.size) (hg : Good w) :
    Calls Tryz.prog 6 #[.agg #[.int .u8 kz, .int .i8 s0, .int .i8 s1, .bool half, .int .i8 a0, .int .i8 a1, .int .i8 a2, .int .i8 a3, .int .i8 a4, .int .i8 a5, .bool ah, .int .i8 b0, .int .i8 b1, .int .i8 b2, .int .i8 b3, .int .i8 b4, .int .i8 b5, .bool bh, .bool even, .int .i8 add], .agg #[.string x, .string y]] w (Ret (fun r _ => r = .bool true) w) := by
  have hmx : (20 : Int) < max (x.size : Int) (y.size : Int) := by omega
  go_enter Tryz.func6, Tryz.ntmps6
  go_wp2_with fail
  obtain ⟨W, hW⟩ : ∃ W, W = (w.alloc (.cells #[.int .u8 kz, .int .i8 s0, .int .i8 s1, .bool half, .int .i8 a0, .int .i8 a1, .int .i8 a2, .int .i8 a3, .int .i8 a4, .int .i8 a5, .bool ah, .int .i8 b0, .int .i8 b1, .int .i8 b2, .int .i8 b3, .int .i8 b4, .int .i8 b5, .bool bh, .bool even, .int .i8 add] 32)).alloc (.cells #[.string x, .string y] 54) := ⟨_, rfl⟩
  have hB : Below w.heap.size w W := by rw [hW]; exact ((Below.refl _ _).alloc (Nat.le_refl _) _).alloc (by simp) _
  have b5' : BoxN W (w.heap.size + 1) 54 [.string x, .string y] := by rw [hW]; exact BoxN.new _ _ _ _ (by simp)
  rw [← hW]
  clear hW
  refine (known_any W (hg.below hB)).mono ?_
  rintro e w1 ⟨_, rfl, rfl, hb1⟩
  have hB1 := hB.trans (hb1.mono hB.size)
  have b51 := b5'.below hb1 b5'.lt
  have c0 := b51.cell 0 rfl
  have c1 := b51.cell 1 rfl
  clear hb1 hB b5'
  go_wp2_with fail
  all_goals
    refine (known_any w1 (hg.below hB1)).mono ?_
    rintro e w2 ⟨_, rfl, rfl, hb2⟩
    go_wp2_with fail
    go_ret
    exact ⟨_, rfl, rfl, hB1.trans (hb2.mono hB1.size)⟩

set_option maxHeartbeats 4000000 in
set_option maxRecDepth 100000 in
theorem vertical_walk (w : World) (kz s0 s1 : Int) (half : Bool) (a0 a1 a2 a3 a4 a5 : Int) (ah : Bool) (b0 b1 b2 b3 b4 b5 : Int) (bh even : Bool) (add : Int) (x y : ByteArray) (P : List PtQ) (T : List Tri) (L U D : List Rat) (hx : x.size ≤ 20) (hy : y.size ≤ 20) (sz slo shi smn : ByteArray) (ee c1 c2 : Int) (hc1 : c1 ≤ 0) (hc2 : c2 ≤ 0)
    (HMK : Hid (∀ w, Good w → Calls Tryz.prog 11 #[.agg #[.int .u8 kz, .int .i8 s0, .int .i8 s1, .bool half, .int .i8 a0, .int .i8 a1, .int .i8 a2, .int .i8 a3, .int .i8 a4, .int .i8 a5, .bool ah, .int .i8 b0, .int .i8 b1, .int .i8 b2, .int .i8 b3, .int .i8 b4, .int .i8 b5, .bool bh, .bool even, .int .i8 add]] w (Ret (fun r w' => ∃ vp vt vl vu, r = .agg #[vp, vt, vl, vu] ∧ PairIn w' vp vt vl vu P T 2 L U) w)))
    (HDI : Hid (∀ (w : World) (vp vt vl vu : Value), PairIn w vp vt vl vu P T 2 L U → Good w → Calls Tryz.prog 28 #[.agg #[vp, vt, vl, vu]] w (Ret (fun r w' => RdQ w' r D) w)))
    (HVE : Hid (∀ (w : World) (vp vt vl vu : Value), PairIn w vp vt vl vu P T 2 L U → Good w → Calls Tryz.prog 21 #[.agg #[vp, vt, vl, vu]] w (Ret (fun r w' => ∃ v, r = .tuple #[v, .int .i64 0] ∧ RdQ w' v D) w)))
    (HAT : Hid (∀ (w : World) (vp vt vl vu : Value), PairIn w vp vt vl vu P T 2 L U → Good w → Calls Tryz.prog 30 #[.agg #[vp, vt, vl, vu], .agg #[.string x, .string y]] w (Ret (fun r _ => r = .tuple #[.string sz, .int .i64 ee]) w)))
    (HEX : Hid (∀ (w : World) (vp vt vl vu : Value), PairIn w vp vt vl vu P T 2 L U → Good w → Calls Tryz.prog 31 #[.agg #[vp, vt, vl, vu]] w (Ret (fun r _ => r = .tuple #[.string slo, .string shi, .int .i64 0]) w)))
    (HME : Hid (∀ (w : World) (vp vt vl vu : Value), PairIn w vp vt vl vu P T 2 L U → Good w → Calls Tryz.prog 32 #[.agg #[vp, vt, vl, vu]] w (Ret (fun r _ => r = .tuple #[.string smn, .int .i64 0]) w)))
    (HVA : Hid (∀ (w : World) (vp vt vl vu vd : Value), PairIn w vp vt vl vu P T 2 L U → RdQ w vd D → Good w → Calls Tryz.prog 33 #[.agg #[vp, vt], vd, .agg #[.string x, .string y]] w (Ret (fun r _ => r = .tuple #[.string sz, .int .i64 ee]) w)))
    (HRA : Hid (∀ (w : World) (vp vt vl vu vd : Value), PairIn w vp vt vl vu P T 2 L U → RdQ w vd D → Good w → Calls Tryz.prog 34 #[.agg #[vp, vt], vd] w (Ret (fun r _ => r = .tuple #[.string slo, .string shi, .int .i64 0]) w)))
    (HRM : Hid (∀ (w : World) (vp vt vl vu vd : Value), PairIn w vp vt vl vu P T 2 L U → RdQ w vd D → Good w → Calls Tryz.prog 36 #[.agg #[vp, vt], vd] w (Ret (fun r _ => r = .string smn) w)))
    (HC1 : Hid (∀ w, Good w → Calls Tryz.prog 37 #[.string slo, .string smn] w (Ret (fun r _ => r = .int .i64 c1) w)))
    (HC2 : Hid (∀ w, Good w → Calls Tryz.prog 37 #[.string smn, .string shi] w (Ret (fun r _ => r = .int .i64 c2) w))) (hg : Good w) :
    Calls Tryz.prog 6 #[.agg #[.int .u8 kz, .int .i8 s0, .int .i8 s1, .bool half, .int .i8 a0, .int .i8 a1, .int .i8 a2, .int .i8 a3, .int .i8 a4, .int .i8 a5, .bool ah, .int .i8 b0, .int .i8 b1, .int .i8 b2, .int .i8 b3, .int .i8 b4, .int .i8 b5, .bool bh, .bool even, .int .i8 add], .agg #[.string x, .string y]] w (Ret (fun r _ => r = .bool true) w) := by
  go_enter Tryz.func6, Tryz.ntmps6
  go_upto_region 1 with fail
  obtain ⟨W, hW⟩ : ∃ W, W = (w.alloc (.cells #[.int .u8 kz, .int .i8 s0, .int .i8 s1, .bool half, .int .i8 a0, .int .i8 a1, .int .i8 a2, .int .i8 a3, .int .i8 a4, .int .i8 a5, .bool ah, .int .i8 b0, .int .i8 b1, .int .i8 b2, .int .i8 b3, .int .i8 b4, .int .i8 b5, .bool bh, .bool even, .int .i8 add] 32)).alloc (.cells #[.string x, .string y] 54) := ⟨_, rfl⟩
  have hB : Below w.heap.size w W := by rw [hW]; exact ((Below.refl _ _).alloc (Nat.le_refl _) _).alloc (by simp) _
  have v3 : BoxN W (w.heap.size + 1) 54 [.string x, .string y] := by rw [hW]; exact BoxN.new _ _ _ _ (by simp)
  have v2 : BoxN W w.heap.size 32 [.int .u8 kz, .int .i8 s0, .int .i8 s1, .bool half, .int .i8 a0, .int .i8 a1, .int .i8 a2, .int .i8 a3, .int .i8 a4, .int .i8 a5, .bool ah, .int .i8 b0, .int .i8 b1, .int .i8 b2, .int .i8 b3, .int .i8 b4, .int .i8 b5, .bool bh, .bool even, .int .i8 add] := by
    rw [hW]
    have h1 := (BoxN.new w #[.int .u8 kz, .int .i8 s0, .int .i8 s1, .bool half, .int .i8 a0, .int .i8 a1, .int .i8 a2, .int .i8 a3, .int .i8 a4, .int .i8 a5, .bool ah, .int .i8 b0, .int .i8 b1, .int .i8 b2, .int .i8 b3, .int .i8 b4, .int .i8 b5, .bool bh, .bool even, .int .i8 add] 32 _ rfl)
    exact h1.below ((Below.refl _ _).alloc (Nat.le_refl _) _) h1.lt
  rw [← hW]
  clear hW
  go_cut [32] (fun s32 wx => s32 = .bool false ∧ Below W.heap.size W wx)
  case first =>
    go_wp2_with fail
    refine (known_any W (hg.below hB)).mono ?_
    rintro e w1 ⟨_, rfl, rfl, hb1⟩
    have v31 := v3.below hb1 v3.lt
    have c0 := v31.cell 0 rfl
    have c1 := v31.cell 1 rfl
    have hx' : (x.size : Int) ≤ 20 := by omega
    have hy' : (y.size : Int) ≤ 20 := by omega
    go_wp2_with fail
    all_goals
      go_meet
      exact ⟨congrArg Value.bool (decide_eq_false (by omega)), hb1⟩
  case rest =>
  obtain ⟨rfl, hb1⟩ := hcut
  obtain ⟨w1, hw1⟩ : ∃ w1, w1 = wc := ⟨_, rfl⟩
  rw [← hw1] at hb1 ⊢
  clear hw1
  have hB1 := hB.trans (hb1.mono hB.size)
  have v31 := v3.below hb1 v3.lt
  have v21 := v2.below hb1 v2.lt
  have hrange : w1.rangeAt w.heap.size 0 [.int .u8 kz, .int .i8 s0, .int .i8 s1, .bool half, .int .i8 a0, .int .i8 a1, .int .i8 a2, .int .i8 a3, .int .i8 a4, .int .i8 a5, .bool ah, .int .i8 b0, .int .i8 b1, .int .i8 b2, .int .i8 b3, .int .i8 b4, .int .i8 b5, .bool bh, .bool even, .int .i8 add] := fun j v hv => by rw [Nat.zero_add]; exact v21.cell j hv
  clear hb1 hB v3 v2
  go_upto_region 3 with fail
  go_wp2_with (refine wpList_load_mid (by rfl) 32 (.tmp 2) (by rfl) w.heap.size 0 (by rfl) [.int .u8 kz, .int .i8 s0, .int .i8 s1, .bool half, .int .i8 a0, .int .i8 a1, .int .i8 a2, .int .i8 a3, .int .i8 a4, .int .i8 a5, .bool ah, .int .i8 b0, .int .i8 b1, .int .i8 b2, .int .i8 b3, .int .i8 b4, .int .i8 b5, .bool bh, .bool even, .int .i8 add] _ hrange Tryz.underlying32 (by rfl) (by kernel_rfl) ?_)
  refine (HMK.out w1 (hg.below hB1)).mono ?_
  rintro e w2 ⟨_, rfl, ⟨vp, vt, vl, vu, rfl, hPI⟩, hb2⟩
  obtain ⟨pp, cp, pt, ct, pl, cl, pu, cu, rfl, rfl, rfl, rfl⟩ := hPI.open
  have hB2 := hB1.trans (hb2.mono hB1.size)
  have v32 := v31.below hb2 v31.lt
  clear hrange v21 hb2 hB1 v31
  go_upto_region 4 with fail
  obtain ⟨W3, hW3⟩ : ∃ W, W = w2.alloc (.cells #[.slice pp P.length cp, .slice pt T.length ct, .slice pl L.length cl, .slice pu U.length cu] 44) := ⟨_, rfl⟩
  have hb3 : Below w2.heap.size w2 W3 := by rw [hW3]; exact (Below.refl _ _).alloc (Nat.le_refl _) _
  have v5_3 : BoxN W3 w2.heap.size 44 [.slice pp P.length cp, .slice pt T.length ct, .slice pl L.length cl, .slice pu U.length cu] := by rw [hW3]; exact BoxN.new _ _ _ _ rfl
  rw [← hW3]
  clear hW3
  have hB3 := hB2.trans (hb3.mono hB2.size)
  have v3_3 := v32.below hb3 v32.lt
  have HP3 := Lib.hid (hPI.below hb3)
  clear hPI hb3 hB2 v32
  have d0 := v5_3.cell 0 rfl
  have d1 := v5_3.cell 1 rfl
  have d2 := v5_3.cell 2 rfl
  have d3 := v5_3.cell 3 rfl
  go_wp2_with fail
  refine (HDI.out W3 _ _ _ _ HP3.out (hg.below hB3)).mono ?_
  rintro e w4 ⟨_, rfl, hrd, hb⟩
  have hB4 := hB3.trans (hb.mono hB3.size)
  have HP4 := Lib.hid (HP3.out.below hb)
  have v5_4 := v5_3.below hb v5_3.lt
  have v3_4 := v3_3.below hb v3_3.lt
  clear hb hB3 HP3 v5_3 v3_3  d0 d1 d2 d3
  obtain ⟨pd, cd, rfl, -, -, -⟩ := RdQ.open hrd
  have HR_4 : Hid (RdQ w4 (.slice pd D.length cd) D) := hrd
  clear hrd
  have d0 := v5_4.cell 0 rfl
  have d1 := v5_4.cell 1 rfl
  have d2 := v5_4.cell 2 rfl
  have d3 := v5_4.cell 3 rfl
  go_wp2_with fail
  refine (HVE.out w4 _ _ _ _ HP4.out (hg.below hB4)).mono ?_
  rintro e w5 ⟨_, rfl, ⟨vv, rfl, hrv⟩, hb⟩
  have hB5 := hB4.trans (hb.mono hB4.size)
  have HP5 := Lib.hid (HP4.out.below hb)
  have v5_5 := v5_4.below hb v5_4.lt
  have v3_5 := v3_4.below hb v3_4.lt
  have HR_5 : Hid (RdQ w5 (.slice pd D.length cd) D) := RdC.below HR_4.out hb
  clear hb hB4 HP4 v5_4 v3_4 HR_4 d0 d1 d2 d3
  obtain ⟨pv, cv, rfl, -, -, -⟩ := RdQ.open hrv
  have HV_5 : Hid (RdQ w5 (.slice pv D.length cv) D) := hrv
  clear hrv
  have d0 := v5_5.cell 0 rfl
  have d1 := v5_5.cell 1 rfl
  have d2 := v5_5.cell 2 rfl
  have d3 := v5_5.cell 3 rfl
  have c0 := v3_5.cell 0 rfl
  have c1 := v3_5.cell 1 rfl
  go_wp2_with fail
  refine (HAT.out w5 _ _ _ _ HP5.out (hg.below hB5)).mono ?_
  rintro e w6 ⟨_, rfl, rfl, hb⟩
  have hB6 := hB5.trans (hb.mono hB5.size)
  have HP6 := Lib.hid (HP5.out.below hb)
  have v5_6 := v5_5.below hb v5_5.lt
  have v3_6 := v3_5.below hb v3_5.lt
  have HR_6 : Hid (RdQ w6 (.slice pd D.length cd) D) := RdC.below HR_5.out hb
  have HV_6 : Hid (RdQ w6 (.slice pv D.length cv) D) := RdC.below HV_5.out hb
  clear hb hB5 HP5 v5_5 v3_5 HR_5 HV_5 d0 d1 d2 d3 c0 c1
  have d0 := v5_6.cell 0 rfl
  have d1 := v5_6.cell 1 rfl
  have d2 := v5_6.cell 2 rfl
  have d3 := v5_6.cell 3 rfl
  go_wp2_with fail
  refine (HEX.out w6 _ _ _ _ HP6.out (hg.below hB6)).mono ?_
  rintro e w7 ⟨_, rfl, rfl, hb⟩
  have hB7 := hB6.trans (hb.mono hB6.size)
  have HP7 := Lib.hid (HP6.out.below hb)
  have v5_7 := v5_6.below hb v5_6.lt
  have v3_7 := v3_6.below hb v3_6.lt
  have HR_7 : Hid (RdQ w7 (.slice pd D.length cd) D) := RdC.below HR_6.out hb
  have HV_7 : Hid (RdQ w7 (.slice pv D.length cv) D) := RdC.below HV_6.out hb
  clear hb hB6 HP6 v5_6 v3_6 HR_6 HV_6 d0 d1 d2 d3
  have d0 := v5_7.cell 0 rfl
  have d1 := v5_7.cell 1 rfl
  have d2 := v5_7.cell 2 rfl
  have d3 := v5_7.cell 3 rfl
  go_wp2_with fail
  refine (HME.out w7 _ _ _ _ HP7.out (hg.below hB7)).mono ?_
  rintro e w8 ⟨_, rfl, rfl, hb⟩
  have hB8 := hB7.trans (hb.mono hB7.size)
  have HP8 := Lib.hid (HP7.out.below hb)
  have v5_8 := v5_7.below hb v5_7.lt
  have v3_8 := v3_7.below hb v3_7.lt
  have HR_8 : Hid (RdQ w8 (.slice pd D.length cd) D) := RdC.below HR_7.out hb
  have HV_8 : Hid (RdQ w8 (.slice pv D.length cv) D) := RdC.below HV_7.out hb
  clear hb hB7 HP7 v5_7 v3_7 HR_7 HV_7 d0 d1 d2 d3
  have d0 := v5_8.cell 0 rfl
  have d1 := v5_8.cell 1 rfl
  have c0 := v3_8.cell 0 rfl
  have c1 := v3_8.cell 1 rfl
  go_wp2_with fail
  refine (HVA.out w8 _ _ _ _ _ HP8.out HR_8.out (hg.below hB8)).mono ?_
  rintro e w9 ⟨_, rfl, rfl, hb⟩
  have hB9 := hB8.trans (hb.mono hB8.size)
  have HP9 := Lib.hid (HP8.out.below hb)
  have v5_9 := v5_8.below hb v5_8.lt
  have HR_9 : Hid (RdQ w9 (.slice pd D.length cd) D) := RdC.below HR_8.out hb
  have HV_9 : Hid (RdQ w9 (.slice pv D.length cv) D) := RdC.below HV_8.out hb
  clear hb hB8 HP8 v5_8 HR_8 HV_8 d0 d1 c0 c1
  have d0 := v5_9.cell 0 rfl
  have d1 := v5_9.cell 1 rfl
  go_wp2_with fail
  refine (HRA.out w9 _ _ _ _ _ HP9.out HR_9.out (hg.below hB9)).mono ?_
  rintro e w10 ⟨_, rfl, rfl, hb⟩
  have hB10 := hB9.trans (hb.mono hB9.size)
  have HP10 := Lib.hid (HP9.out.below hb)
  have v5_10 := v5_9.below hb v5_9.lt
  have HR_10 : Hid (RdQ w10 (.slice pd D.length cd) D) := RdC.below HR_9.out hb
  have HV_10 : Hid (RdQ w10 (.slice pv D.length cv) D) := RdC.below HV_9.out hb
  clear hb hB9 HP9 v5_9 HR_9 HV_9 d0 d1
  go_wp2_with fail
  refine (equal_same _ _ D w10 HV_10.out HR_10.out).mono ?_
  rintro e w11 ⟨_, rfl, rfl, hb⟩
  have hB11 := hB10.trans (hb.mono hB10.size)
  have HP11 := Lib.hid (HP10.out.below hb)
  have v5_11 := v5_10.below hb v5_10.lt
  have HR_11 : Hid (RdQ w11 (.slice pd D.length cd) D) := RdC.below HR_10.out hb
  clear hb hB10 HP10 v5_10 HR_10 
  have d0 := v5_11.cell 0 rfl
  have d1 := v5_11.cell 1 rfl
  go_wp2_with fail
  refine (HRM.out w11 _ _ _ _ _ HP11.out HR_11.out (hg.below hB11)).mono ?_
  rintro e w12 ⟨_, rfl, rfl, hb⟩
  have hB12 := hB11.trans (hb.mono hB11.size)
  have HP12 := Lib.hid (HP11.out.below hb)
  clear hb hB11 HP11   d0 d1
  go_wp2_with fail
  refine (HC1.out w12 (hg.below hB12)).mono ?_
  rintro e w13 ⟨_, rfl, rfl, hb⟩
  have hB13 := hB12.trans (hb.mono hB12.size)
  go_wp2_with fail
  refine (HC2.out w13 (hg.below hB13)).mono ?_
  rintro e w14 ⟨_, rfl, rfl, hb'⟩
  have hB14 := hB13.trans (hb'.mono hB13.size)
  go_wp2_with fail
  go_ret
  exact ⟨_, rfl, rfl, hB14⟩

end Go.Proofs.YtjfjkiibmfgplaaGreatDoor
