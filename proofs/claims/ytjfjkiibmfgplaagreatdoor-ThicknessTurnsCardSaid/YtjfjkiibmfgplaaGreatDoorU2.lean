/- The walk over klippelaw38.ThicknessTurns. -/
import Derived.Test.YtjfjkiibmfgplaaGreatDoorZ3
import Derived.Test.YtjfjkiibmfgplaaGreatDoorU1
import Derived.Deep.MidRow
import Derived.Deep.DeepCutAuto
namespace Go.Proofs.YtjfjkiibmfgplaaGreatDoor
open Go.RowKit Go.Lib

set_option maxHeartbeats 4000000 in
set_option maxRecDepth 100000 in
theorem turns_walk (w : World) (kz s0 s1 : Int) (half : Bool) (a0 a1 a2 a3 a4 a5 : Int) (ah : Bool) (b0 b1 b2 b3 b4 b5 : Int) (bh even : Bool) (add : Int) (tt : Int) (P : List PtQ) (T : List Tri) (L U : List Rat) (t m : Nat) (ht0 : 0 ≤ tt ∧ tt ≤ 255) (ht : tt % (T.length : Int) = (t : Int)) (htl : t < T.length) (hm : T[t].1 = (m : Int)) (D : List Rat) (hmD : m < D.length) (sa sb n1 n2 sk ss sl kk : ByteArray) (hsa : RS (D[m]) = sa)
    (HMK : Hid (∀ w, Good w → Calls Tryz.prog 11 #[.agg #[.int .u8 kz, .int .i8 s0, .int .i8 s1, .bool half, .int .i8 a0, .int .i8 a1, .int .i8 a2, .int .i8 a3, .int .i8 a4, .int .i8 a5, .bool ah, .int .i8 b0, .int .i8 b1, .int .i8 b2, .int .i8 b3, .int .i8 b4, .int .i8 b5, .bool bh, .bool true, .int .i8 add]] w (Ret (fun r w' => ∃ vp vt vl vu, r = .agg #[vp, vt, vl, vu] ∧ PairIn w' vp vt vl vu P T 2 L U) w)))
    (HTP : Hid (∀ (w : World) (vp vt vl vu : Value), PairIn w vp vt vl vu P T 2 L U → Good w → Calls Tryz.prog 14 #[.agg #[vp, vt, vl, vu], .int .i64 (t : Int), .agg #[.string ⟨#[48]⟩, .string ⟨#[48]⟩, .string ⟨#[49]⟩]] w (Ret (fun r _ => r = .tuple #[.string sa, .int .i64 0]) w)))
    (HTQ : Hid (∀ (w : World) (vp vt vl vu : Value), PairIn w vp vt vl vu P T 2 L U → Good w → Calls Tryz.prog 14 #[.agg #[vp, vt, vu, vl], .int .i64 (t : Int), .agg #[.string ⟨#[48]⟩, .string ⟨#[48]⟩, .string ⟨#[49]⟩]] w (Ret (fun r _ => r = .tuple #[.string sb, .int .i64 0]) w)))
    (HVE : Hid (∀ (w : World) (vp vt vl vu : Value), PairIn w vp vt vl vu P T 2 L U → Good w → Calls Tryz.prog 21 #[.agg #[vp, vt, vl, vu]] w (Ret (fun r w' => ∃ v, r = .tuple #[v, .int .i64 0] ∧ RdQ w' v D) w)))
    (HNO : Hid (∀ (w : World) (vp vt vl vu : Value), PairIn w vp vt vl vu P T 2 L U → Good w → Calls Tryz.prog 22 #[.agg #[vp, vt], vl, .int .i64 (t : Int)] w (Ret (fun r _ => r = .tuple #[.agg #[.string n1, .string n2, .string ⟨#[49]⟩], .int .i64 0]) w)))
    (HTN : Hid (∀ (w : World) (vp vt vl vu : Value), PairIn w vp vt vl vu P T 2 L U → Good w → Calls Tryz.prog 14 #[.agg #[vp, vt, vl, vu], .int .i64 (t : Int), .agg #[.string n1, .string n2, .string ⟨#[49]⟩]] w (Ret (fun r _ => r = .tuple #[.string sk, .int .i64 0]) w)))
    (HSQ : Hid (∀ (w : World) (vp vt vl vu : Value), PairIn w vp vt vl vu P T 2 L U → Good w → Calls Tryz.prog 13 #[.agg #[vp, vt, vl, vu], .int .i64 (t : Int)] w (Ret (fun r _ => r = .tuple #[.string ss, .int .i64 0]) w)))
    (HDT : Hid (∀ (w : World), Good w → Calls Tryz.prog 23 #[.agg #[.string n1, .string n2, .string ⟨#[49]⟩], .agg #[.string n1, .string n2, .string ⟨#[49]⟩]] w (Ret (fun r _ => r = .string sl) w)))
    (HNG : Hid (∀ (w : World), Good w → Calls Tryz.prog 24 #[.string sa] w (Ret (fun r _ => r = .string sb) w)))
    (HM1 : Hid (∀ (w : World), Good w → Calls Tryz.prog 19 #[.string sk, .string sk] w (Ret (fun r _ => r = .string kk) w)))
    (HM2 : Hid (∀ (w : World), Good w → Calls Tryz.prog 19 #[.string kk, .string sl] w (Ret (fun r _ => r = .string ss) w))) (hg : Good w) :
    Calls Tryz.prog 4 #[.agg #[.int .u8 kz, .int .i8 s0, .int .i8 s1, .bool half, .int .i8 a0, .int .i8 a1, .int .i8 a2, .int .i8 a3, .int .i8 a4, .int .i8 a5, .bool ah, .int .i8 b0, .int .i8 b1, .int .i8 b2, .int .i8 b3, .int .i8 b4, .int .i8 b5, .bool bh, .bool even, .int .i8 add], .int .u8 tt] w (Ret (fun r _ => r = .bool true) w) := by
  have ht1 : (t : Int) < (T.length : Int) := by omega
  have i0 := idx_T0
  have hmd : (m : Int) < (D.length : Int) := by omega
  have HTT := Lib.hid ht
  have HM := Lib.hid hm
  have HSA := Lib.hid hsa
  have htn : (0 : Int) < (T.length : Int) := by omega
  clear ht hm hsa
  go_enter Tryz.func4, Tryz.ntmps4
  go_wp2_with fail
  obtain ⟨W, hW⟩ : ∃ W, W = w.alloc (.cells #[.int .u8 kz, .int .i8 s0, .int .i8 s1, .bool half, .int .i8 a0, .int .i8 a1, .int .i8 a2, .int .i8 a3, .int .i8 a4, .int .i8 a5, .bool ah, .int .i8 b0, .int .i8 b1, .int .i8 b2, .int .i8 b3, .int .i8 b4, .int .i8 b5, .bool bh, .bool even, .int .i8 add] 32) := ⟨_, rfl⟩
  have hB : Below w.heap.size w W := by rw [hW]; exact (Below.refl _ _).alloc (Nat.le_refl _) _
  have v2 : BoxN W w.heap.size 32 [.int .u8 kz, .int .i8 s0, .int .i8 s1, .bool half, .int .i8 a0, .int .i8 a1, .int .i8 a2, .int .i8 a3, .int .i8 a4, .int .i8 a5, .bool ah, .int .i8 b0, .int .i8 b1, .int .i8 b2, .int .i8 b3, .int .i8 b4, .int .i8 b5, .bool bh, .bool even, .int .i8 add] := by rw [hW]; exact BoxN.new _ _ _ _ rfl
  rw [← hW]
  clear hW
  refine (known_any W (hg.below hB)).mono ?_
  rintro e w0 ⟨_, rfl, rfl, hb⟩
  have hB0 := hB.trans (hb.mono hB.size)
  have v20 := v2.below hb v2.lt
  clear hb hB v2
  have q18 := v20.cell 18 rfl
  have q18f := v20.frozen 18
  go_upto_region 4 with fail
  have v21 := v20.set 18 (.bool true)
  have hB1 := hB0.setCell (p := ⟨w.heap.size, 18, none⟩) (Nat.le_refl _) (.bool true)
  obtain ⟨W1, hW1⟩ : ∃ W, W = w0.setCell ⟨w.heap.size, 18, none⟩ (.bool true) := ⟨_, rfl⟩
  rw [← hW1] at v21 hB1 ⊢
  clear hW1 q18 q18f v20 hB0
  have hrange : W1.rangeAt w.heap.size 0 [.int .u8 kz, .int .i8 s0, .int .i8 s1, .bool half, .int .i8 a0, .int .i8 a1, .int .i8 a2, .int .i8 a3, .int .i8 a4, .int .i8 a5, .bool ah, .int .i8 b0, .int .i8 b1, .int .i8 b2, .int .i8 b3, .int .i8 b4, .int .i8 b5, .bool bh, .bool true, .int .i8 add] := fun j v hv => by rw [Nat.zero_add]; exact v21.cell j hv
  go_wp2_with (refine wpList_load_mid (by rfl) 32 (.tmp 2) (by rfl) w.heap.size 0 (by rfl) [.int .u8 kz, .int .i8 s0, .int .i8 s1, .bool half, .int .i8 a0, .int .i8 a1, .int .i8 a2, .int .i8 a3, .int .i8 a4, .int .i8 a5, .bool ah, .int .i8 b0, .int .i8 b1, .int .i8 b2, .int .i8 b3, .int .i8 b4, .int .i8 b5, .bool bh, .bool true, .int .i8 add] _ hrange Tryz.underlying32 (by rfl) (by kernel_rfl) ?_)
  refine (HMK.out W1 (hg.below hB1)).mono ?_
  rintro e w2 ⟨_, rfl, ⟨vp, vt, vl, vu, rfl, hPI⟩, hb2⟩
  obtain ⟨pp, cp, pt, ct, pl, cl, pu, cu, rfl, rfl, rfl, rfl⟩ := hPI.open
  have hB2 := hB1.trans (hb2.mono hB1.size)
  clear hrange v21 hb2 hB1
  go_upto_region 5 with fail
  obtain ⟨W3, hW3⟩ : ∃ W, W = w2.alloc (.cells #[.slice pp P.length cp, .slice pt T.length ct, .slice pl L.length cl, .slice pu U.length cu] 44) := ⟨_, rfl⟩
  have hb3 : Below w2.heap.size w2 W3 := by rw [hW3]; exact (Below.refl _ _).alloc (Nat.le_refl _) _
  have v5 : BoxN W3 w2.heap.size 44 [.slice pp P.length cp, .slice pt T.length ct, .slice pl L.length cl, .slice pu U.length cu] := by rw [hW3]; exact BoxN.new _ _ _ _ rfl
  rw [← hW3]
  clear hW3
  have hB3 := hB2.trans (hb3.mono hB2.size)
  have HP3 := Lib.hid (hPI.below hb3)
  have d0 := v5.cell 0 rfl
  have d1 := v5.cell 1 rfl
  have d2 := v5.cell 2 rfl
  have d3 := v5.cell 3 rfl
  clear hPI hb3 hB2
  go_upto_region 6 with fail
  rw [HTT.out]
  clear HTT
  go_upto_region 7 with fail
  obtain ⟨W4, hW4⟩ : ∃ W, W = W3.alloc (.cells #[.slice pp P.length cp, .slice pt T.length ct, .slice pu U.length cu, .slice pl L.length cl] 44) := ⟨_, rfl⟩
  have hb4 : Below W3.heap.size W3 W4 := by rw [hW4]; exact (Below.refl _ _).alloc (Nat.le_refl _) _
  have v7 : BoxN W4 W3.heap.size 44 [.slice pp P.length cp, .slice pt T.length ct, .slice pu U.length cu, .slice pl L.length cl] := by rw [hW4]; exact BoxN.new _ _ _ _ rfl
  rw [← hW4]
  clear hW4 d0 d1 d2 d3
  have hB4 := hB3.trans (hb4.mono hB3.size)
  have HP4 := Lib.hid (HP3.out.below hb4)
  have v54 := v5.below hb4 v5.lt
  clear hb4 hB3 HP3 v5
  go_upto_region 8 with fail
  obtain ⟨W5, hW5⟩ : ∃ W, W = W4.alloc (.cells #[.string ⟨#[48]⟩, .string ⟨#[48]⟩, .string ⟨#[49]⟩] 35) := ⟨_, rfl⟩
  have hb5 : Below W4.heap.size W4 W5 := by rw [hW5]; exact (Below.refl _ _).alloc (Nat.le_refl _) _
  have v8_5 : BoxN W5 W4.heap.size 35 [.string ⟨#[48]⟩, .string ⟨#[48]⟩, .string ⟨#[49]⟩] := by rw [hW5]; exact BoxN.new _ _ _ _ rfl
  rw [← hW5]
  clear hW5
  have hB5 := hB4.trans (hb5.mono hB4.size)
  have HP5 := Lib.hid (HP4.out.below hb5)
  have v5_5 := v54.below hb5 v54.lt
  have v7_5 := v7.below hb5 v7.lt
  clear hb5 hB4 HP4 v54 v7
  have d0 := v5_5.cell 0 rfl
  have d1 := v5_5.cell 1 rfl
  have d2 := v5_5.cell 2 rfl
  have d3 := v5_5.cell 3 rfl
  have c0 := v8_5.cell 0 rfl
  have c1 := v8_5.cell 1 rfl
  have c2 := v8_5.cell 2 rfl
  go_wp2_with fail
  refine (HTP.out W5 _ _ _ _ HP5.out (hg.below hB5)).mono ?_
  rintro e w6 ⟨_, rfl, rfl, hb⟩
  have hB6 := hB5.trans (hb.mono hB5.size)
  have HP6 := Lib.hid (HP5.out.below hb)
  have v5_6 := v5_5.below hb v5_5.lt
  have v7_6 := v7_5.below hb v7_5.lt
  have v8_6 := v8_5.below hb v8_5.lt
  clear hb hB5 HP5 v5_5 v7_5 v8_5 d0 d1 d2 d3 c0 c1 c2
  have d0 := v7_6.cell 0 rfl
  have d1 := v7_6.cell 1 rfl
  have d2 := v7_6.cell 2 rfl
  have d3 := v7_6.cell 3 rfl
  have c0 := v8_6.cell 0 rfl
  have c1 := v8_6.cell 1 rfl
  have c2 := v8_6.cell 2 rfl
  go_wp2_with fail
  refine (HTQ.out w6 _ _ _ _ HP6.out (hg.below hB6)).mono ?_
  rintro e w7 ⟨_, rfl, rfl, hb⟩
  have hB7 := hB6.trans (hb.mono hB6.size)
  have HP7 := Lib.hid (HP6.out.below hb)
  have v5_7 := v5_6.below hb v5_6.lt
  clear hb hB6 HP6 v5_6 d0 d1 d2 d3 c0 c1 c2
  have d0 := v5_7.cell 0 rfl
  have d1 := v5_7.cell 1 rfl
  have d2 := v5_7.cell 2 rfl
  have d3 := v5_7.cell 3 rfl
  go_wp2_with fail
  refine (HVE.out w7 _ _ _ _ HP7.out (hg.below hB7)).mono ?_
  rintro e w8 ⟨_, rfl, ⟨vd, rfl, hrd⟩, hb⟩
  have hB8 := hB7.trans (hb.mono hB7.size)
  have HP8 := Lib.hid (HP7.out.below hb)
  have v5_8 := v5_7.below hb v5_7.lt
  clear hb hB7 HP7 v5_7 d0 d1 d2 d3
  obtain ⟨pd, cd, rfl, _, _, _⟩ := hrd.open
  have HR8 := Lib.hid hrd
  clear hrd
  have d0 := v5_8.cell 0 rfl
  have d1 := v5_8.cell 1 rfl
  have d2 := v5_8.cell 2 rfl
  have d3 := v5_8.cell 3 rfl
  go_wp2_with fail
  refine (HNO.out w8 _ _ _ _ HP8.out (hg.below hB8)).mono ?_
  rintro e w9 ⟨_, rfl, rfl, hb⟩
  have hB9 := hB8.trans (hb.mono hB8.size)
  have HP9 := Lib.hid (HP8.out.below hb)
  have HR9 : Hid (RdQ w9 (.slice pd D.length cd) D) := RdC.below HR8.out hb
  have v5_9 := v5_8.below hb v5_8.lt
  clear hb HR8 hB8 HP8 v5_8 d0 d1 d2 d3
  go_upto_region 12 with fail
  obtain ⟨W10, hW10⟩ : ∃ W, W = w9.alloc (.cells #[.string n1, .string n2, .string ⟨#[49]⟩] 35) := ⟨_, rfl⟩
  have hb10 : Below w9.heap.size w9 W10 := by rw [hW10]; exact (Below.refl _ _).alloc (Nat.le_refl _) _
  have v15_10 : BoxN W10 w9.heap.size 35 [.string n1, .string n2, .string ⟨#[49]⟩] := by rw [hW10]; exact BoxN.new _ _ _ _ rfl
  rw [← hW10]
  clear hW10
  have hB10 := hB9.trans (hb10.mono hB9.size)
  have HP10 := Lib.hid (HP9.out.below hb10)
  have HR10 : Hid (RdQ W10 (.slice pd D.length cd) D) := RdC.below HR9.out hb10
  have v5_10 := v5_9.below hb10 v5_9.lt
  clear hb10 HR9 hB9 HP9 v5_9
  have d0 := v5_10.cell 0 rfl
  have d1 := v5_10.cell 1 rfl
  have d2 := v5_10.cell 2 rfl
  have d3 := v5_10.cell 3 rfl
  have c0 := v15_10.cell 0 rfl
  have c1 := v15_10.cell 1 rfl
  have c2 := v15_10.cell 2 rfl
  go_wp2_with fail
  refine (HTN.out W10 _ _ _ _ HP10.out (hg.below hB10)).mono ?_
  rintro e w11 ⟨_, rfl, rfl, hb⟩
  have hB11 := hB10.trans (hb.mono hB10.size)
  have HP11 := Lib.hid (HP10.out.below hb)
  have HR11 : Hid (RdQ w11 (.slice pd D.length cd) D) := RdC.below HR10.out hb
  have v5_11 := v5_10.below hb v5_10.lt
  have v15_11 := v15_10.below hb v15_10.lt
  clear hb HR10 hB10 HP10 v5_10 v15_10 d0 d1 d2 d3 c0 c1 c2
  have d0 := v5_11.cell 0 rfl
  have d1 := v5_11.cell 1 rfl
  have d2 := v5_11.cell 2 rfl
  have d3 := v5_11.cell 3 rfl
  go_wp2_with fail
  refine (HSQ.out w11 _ _ _ _ HP11.out (hg.below hB11)).mono ?_
  rintro e w12 ⟨_, rfl, rfl, hb⟩
  have hB12 := hB11.trans (hb.mono hB11.size)
  have HP12 := Lib.hid (HP11.out.below hb)
  have HR12 : Hid (RdQ w12 (.slice pd D.length cd) D) := RdC.below HR11.out hb
  have v5_12 := v5_11.below hb v5_11.lt
  have v15_12 := v15_11.below hb v15_11.lt
  clear hb HR11 hB11 HP11 v5_11 v15_11 d0 d1 d2 d3
  have c0 := v15_12.cell 0 rfl
  have c1 := v15_12.cell 1 rfl
  have c2 := v15_12.cell 2 rfl
  go_wp2_with fail
  refine (HDT.out w12 (hg.below hB12)).mono ?_
  rintro e w13 ⟨_, rfl, rfl, hb⟩
  have hB13 := hB12.trans (hb.mono hB12.size)
  have HP13 := Lib.hid (HP12.out.below hb)
  have HR13 : Hid (RdQ w13 (.slice pd D.length cd) D) := RdC.below HR12.out hb
  have v5_13 := v5_12.below hb v5_12.lt
  clear hb HR12 hB12 HP12 v5_12 c0 c1 c2
  obtain ⟨bt, ot, ct', e0, hbt, k0, _, _⟩ := HP13.out.l.tri t htl
  cases e0
  rw [HM.out] at k0
  obtain ⟨pd', cd', e0, _, _, hdr⟩ := HR13.out.open
  obtain ⟨bd, od, rfl, hbd, hdc⟩ := hdr (List.ne_nil_of_length_pos (by omega))
  cases e0
  have k1 := hdc m hmD
  rw [HSA.out] at k1
  have d1 := v5_13.cell 1 rfl
  clear hdr hdc HP13 HR13 HM HSA hbt hbd
  go_wp2_with fail
  refine (HNG.out w13 (hg.below hB13)).mono ?_
  rintro e w14 ⟨_, rfl, rfl, hb⟩
  have hB14 := hB13.trans (hb.mono hB13.size)
  clear hb hB13 d1 k0 k1 v5_13
  go_wp2_with fail
  refine (HM1.out w14 (hg.below hB14)).mono ?_
  rintro e w15 ⟨_, rfl, rfl, hb⟩
  have hB15 := hB14.trans (hb.mono hB14.size)
  clear hb hB14
  go_wp2_with fail
  refine (HM2.out w15 (hg.below hB15)).mono ?_
  rintro e w16 ⟨_, rfl, rfl, hb⟩
  have hB16 := hB15.trans (hb.mono hB15.size)
  clear hb hB15
  go_wp2_with fail
  go_ret
  exact ⟨_, rfl, rfl, hB16⟩

end Go.Proofs.YtjfjkiibmfgplaaGreatDoor
