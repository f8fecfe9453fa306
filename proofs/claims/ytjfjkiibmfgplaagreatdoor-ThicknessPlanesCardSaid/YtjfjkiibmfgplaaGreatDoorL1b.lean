/- The walk over klippelaw38.ThicknessPlanes: slopes that differ. -/
import Derived.Test.YtjfjkiibmfgplaaGreatDoorZ3
import Derived.Test.YtjfjkiibmfgplaaGreatDoorZ2
import Derived.Deep.MidRow
import Derived.Deep.DeepCutAuto
namespace Go.Proofs.YtjfjkiibmfgplaaGreatDoor
open Go.RowKit Go.Lib


set_option maxHeartbeats 8000000 in
set_option maxRecDepth 100000 in
theorem planes_differ0 (w : World) (kz s0 s1 : Int) (half : Bool) (a0 a1 a2 a3 a4 a5 : Int) (ah : Bool) (b0 b1 b2 b3 b4 b5 : Int) (bh even : Bool) (add tz : Int) (x y z : ByteArray) (P : List PtQ) (T : List Tri) (L U : List Rat) (hx : x.size ≤ 20) (hy : y.size ≤ 20) (hz : z.size ≤ 20) (t : Nat) (htz : tz = (t : Int)) (htl : t < T.length) (sa sb ua ub : ByteArray)
    (HS1 : Hid (∀ (w : World) (vp vt vl vu : Value), PairIn w vp vt vl vu P T 2 L U → Good w → Calls Tryz.prog 16 #[.agg #[vp, vt], vl, .int .i64 tz] w (Ret (fun r _ => r = .tuple #[.agg #[.string sa, .string sb], .int .i64 0]) w)))
    (HS2 : Hid (∀ (w : World) (vp vt vl vu : Value), PairIn w vp vt vl vu P T 2 L U → Good w → Calls Tryz.prog 16 #[.agg #[vp, vt], vu, .int .i64 tz] w (Ret (fun r _ => r = .tuple #[.agg #[.string ua, .string ub], .int .i64 0]) w)))
    (hdf : Hid ((¬ sa.toList = ua.toList) ∨ (sa.toList = ua.toList ∧ ¬ sb.toList = ub.toList)))
    (HMK : Hid (∀ w, Good w → Calls Tryz.prog 11 #[.agg #[.int .u8 kz, .int .i8 s0, .int .i8 s1, .bool half, .int .i8 a0, .int .i8 a1, .int .i8 a2, .int .i8 a3, .int .i8 a4, .int .i8 a5, .bool ah, .int .i8 b0, .int .i8 b1, .int .i8 b2, .int .i8 b3, .int .i8 b4, .int .i8 b5, .bool bh, .bool even, .int .i8 add]] w (Ret (fun r w' => ∃ vp vt vl vu, r = .agg #[vp, vt, vl, vu] ∧ PairIn w' vp vt vl vu P T 2 L U) w)))
    (HPA : Hid (∀ (w : World) (vp vt vl vu : Value), PairIn w vp vt vl vu P T 2 L U → Good w → Calls Tryz.prog 12 #[.agg #[vp, vt, vl, vu], .int .i64 tz] w (Ret (fun r _ => r = .tuple #[.bool false, .int .i64 0]) w)))
    (HSQ : Hid (∀ (w : World) (vp vt vl vu : Value), PairIn w vp vt vl vu P T 2 L U → Good w → Calls Tryz.prog 13 #[.agg #[vp, vt, vl, vu], .int .i64 tz] w (Ret (fun r _ => r = .tuple #[.string ⟨#[]⟩, .int .i64 7]) w)))
    (HTW : Hid (∀ (w : World) (vp vt vl vu : Value), PairIn w vp vt vl vu P T 2 L U → Good w → Calls Tryz.prog 14 #[.agg #[vp, vt, vl, vu], .int .i64 tz, .agg #[.string x, .string y, .string z]] w (Ret (fun r _ => r = .tuple #[.string ⟨#[]⟩, .int .i64 7]) w)))
    (HV : Hid (∀ w, Good w → Calls Tryz.prog 15 #[.agg #[.string x, .string y, .string z]] w (Ret (fun r _ => r = .int .i64 0) w))) (hg : Good w) :
    Calls Tryz.prog 3 #[.agg #[.int .u8 kz, .int .i8 s0, .int .i8 s1, .bool half, .int .i8 a0, .int .i8 a1, .int .i8 a2, .int .i8 a3, .int .i8 a4, .int .i8 a5, .bool ah, .int .i8 b0, .int .i8 b1, .int .i8 b2, .int .i8 b3, .int .i8 b4, .int .i8 b5, .bool bh, .bool even, .int .i8 add], .int .i64 tz, .agg #[.string x, .string y, .string z]] w (Ret (fun r _ => r = .bool true) w) := by
  have ht2 : (t : Int) < (T.length : Int) := by omega
  subst htz
  go_enter Tryz.func3, Tryz.ntmps3
  go_upto_region 1 with fail
  obtain ⟨W, hW⟩ : ∃ W, W = (w.alloc (.cells #[.int .u8 kz, .int .i8 s0, .int .i8 s1, .bool half, .int .i8 a0, .int .i8 a1, .int .i8 a2, .int .i8 a3, .int .i8 a4, .int .i8 a5, .bool ah, .int .i8 b0, .int .i8 b1, .int .i8 b2, .int .i8 b3, .int .i8 b4, .int .i8 b5, .bool bh, .bool even, .int .i8 add] 32)).alloc (.cells #[.string x, .string y, .string z] 35) := ⟨_, rfl⟩
  have hB : Below w.heap.size w W := by rw [hW]; exact ((Below.refl _ _).alloc (Nat.le_refl _) _).alloc (by simp) _
  have v5 : BoxN W (w.heap.size + 1) 35 [.string x, .string y, .string z] := by rw [hW]; exact BoxN.new _ _ _ _ (by simp)
  have v3 : BoxN W w.heap.size 32 [.int .u8 kz, .int .i8 s0, .int .i8 s1, .bool half, .int .i8 a0, .int .i8 a1, .int .i8 a2, .int .i8 a3, .int .i8 a4, .int .i8 a5, .bool ah, .int .i8 b0, .int .i8 b1, .int .i8 b2, .int .i8 b3, .int .i8 b4, .int .i8 b5, .bool bh, .bool even, .int .i8 add] := by
    rw [hW]
    have h1 := (BoxN.new w #[.int .u8 kz, .int .i8 s0, .int .i8 s1, .bool half, .int .i8 a0, .int .i8 a1, .int .i8 a2, .int .i8 a3, .int .i8 a4, .int .i8 a5, .bool ah, .int .i8 b0, .int .i8 b1, .int .i8 b2, .int .i8 b3, .int .i8 b4, .int .i8 b5, .bool bh, .bool even, .int .i8 add] 32 _ rfl)
    exact h1.below ((Below.refl _ _).alloc (Nat.le_refl _) _) h1.lt
  rw [← hW]
  clear hW
  go_cut [37] (fun s37 wx => s37 = .bool false ∧ Below W.heap.size W wx)
  case first =>
    go_wp2_with fail
    refine (known_any W (hg.below hB)).mono ?_
    rintro e w1 ⟨_, rfl, rfl, hb1⟩
    have v51 := v5.below hb1 v5.lt
    have c0 := v51.cell 0 rfl
    have c1 := v51.cell 1 rfl
    have c2 := v51.cell 2 rfl
    have hx' : (x.size : Int) ≤ 20 := by omega
    have hy' : (y.size : Int) ≤ 20 := by omega
    have hz' : (z.size : Int) ≤ 20 := by omega
    go_wp2_with fail
    all_goals
      go_meet
      exact ⟨congrArg Value.bool (decide_eq_false (by omega)), hb1⟩
  case rest =>
  obtain ⟨rfl, hb1⟩ := hcut
  obtain ⟨w1, hw1⟩ : ∃ w1, w1 = wc := ⟨_, rfl⟩
  rw [← hw1] at hb1 ⊢
  clear hw1
  have hB1 := hB.trans (hb1.mono hB.size)
  have v51 := v5.below hb1 v5.lt
  have v31 := v3.below hb1 v3.lt
  have hrange : w1.rangeAt w.heap.size 0 [.int .u8 kz, .int .i8 s0, .int .i8 s1, .bool half, .int .i8 a0, .int .i8 a1, .int .i8 a2, .int .i8 a3, .int .i8 a4, .int .i8 a5, .bool ah, .int .i8 b0, .int .i8 b1, .int .i8 b2, .int .i8 b3, .int .i8 b4, .int .i8 b5, .bool bh, .bool even, .int .i8 add] := fun j v hv => by rw [Nat.zero_add]; exact v31.cell j hv
  clear hb1 hB v5 v3
  go_upto_region 3 with fail
  go_wp2_with (refine wpList_load_mid (by rfl) 32 (.tmp 3) (by rfl) w.heap.size 0 (by rfl) [.int .u8 kz, .int .i8 s0, .int .i8 s1, .bool half, .int .i8 a0, .int .i8 a1, .int .i8 a2, .int .i8 a3, .int .i8 a4, .int .i8 a5, .bool ah, .int .i8 b0, .int .i8 b1, .int .i8 b2, .int .i8 b3, .int .i8 b4, .int .i8 b5, .bool bh, .bool even, .int .i8 add] _ hrange Tryz.underlying32 (by rfl) (by kernel_rfl) ?_)
  refine (HMK.out w1 (hg.below hB1)).mono ?_
  rintro e w2 ⟨_, rfl, ⟨vp, vt, vl, vu, rfl, hPI⟩, hb2⟩
  obtain ⟨pp, cp, pt, ct, pl, cl, pu, cu, rfl, rfl, rfl, rfl⟩ := hPI.open
  have hB2 := hB1.trans (hb2.mono hB1.size)
  have v52 := v51.below hb2 v51.lt
  clear hrange v31 hb2 hB1 v51
  go_upto_region 4 with fail
  obtain ⟨W3, hW3⟩ : ∃ W, W = w2.alloc (.cells #[.slice pp P.length cp, .slice pt T.length ct, .slice pl L.length cl, .slice pu U.length cu] 44) := ⟨_, rfl⟩
  have hb3 : Below w2.heap.size w2 W3 := by rw [hW3]; exact (Below.refl _ _).alloc (Nat.le_refl _) _
  have v7 : BoxN W3 w2.heap.size 44 [.slice pp P.length cp, .slice pt T.length ct, .slice pl L.length cl, .slice pu U.length cu] := by rw [hW3]; exact BoxN.new _ _ _ _ rfl
  rw [← hW3]
  clear hW3
  have hB3 := hB2.trans (hb3.mono hB2.size)
  have v53 := v52.below hb3 v52.lt
  have HP3 := Lib.hid (hPI.below hb3)
  have d0 := v7.cell 0 rfl
  have d1 := v7.cell 1 rfl
  have d2 := v7.cell 2 rfl
  have d3 := v7.cell 3 rfl
  clear hPI hb3 hB2 v52
  go_wp2_with fail
  refine (HPA.out W3 _ _ _ _ HP3.out (hg.below hB3)).mono ?_
  rintro e w4 ⟨_, rfl, rfl, hb4⟩
  have hB4 := hB3.trans (hb4.mono hB3.size)
  have v54 := v53.below hb4 v53.lt
  have v74 := v7.below hb4 v7.lt
  have HP4 := Lib.hid (HP3.out.below hb4)
  clear d0 d1 d2 d3 hb4 hB3 v53 v7 HP3
  have d0 := v74.cell 0 rfl
  have d1 := v74.cell 1 rfl
  have d2 := v74.cell 2 rfl
  have d3 := v74.cell 3 rfl
  go_wp2_with fail
  refine (HSQ.out w4 _ _ _ _ HP4.out (hg.below hB4)).mono ?_
  rintro e w5 ⟨_, rfl, rfl, hb5⟩
  have hB5 := hB4.trans (hb5.mono hB4.size)
  have v55 := v54.below hb5 v54.lt
  have v75 := v74.below hb5 v74.lt
  have HP5 := Lib.hid (HP4.out.below hb5)
  clear d0 d1 d2 d3 hb5 hB4 v54 v74 HP4
  have d0 := v75.cell 0 rfl
  have d1 := v75.cell 1 rfl
  have d2 := v75.cell 2 rfl
  have d3 := v75.cell 3 rfl
  have c0 := v55.cell 0 rfl
  have c1 := v55.cell 1 rfl
  have c2 := v55.cell 2 rfl
  go_wp2_with fail
  refine (HTW.out w5 _ _ _ _ HP5.out (hg.below hB5)).mono ?_
  rintro e w6 ⟨_, rfl, rfl, hb6⟩
  have hB6 := hB5.trans (hb6.mono hB5.size)
  have v56 := v55.below hb6 v55.lt
  have v76 := v75.below hb6 v75.lt
  have HP6 := Lib.hid (HP5.out.below hb6)
  clear d0 d1 d2 d3 c0 c1 c2 hb6 hB5 v55 v75 HP5
  have c0 := v56.cell 0 rfl
  have c1 := v56.cell 1 rfl
  have c2 := v56.cell 2 rfl
  go_wp2_with fail
  refine (HV.out w6 (hg.below hB6)).mono ?_
  rintro e w7 ⟨_, rfl, rfl, hb7⟩
  have hB7 := hB6.trans (hb7.mono hB6.size)
  have v57 := v56.below hb7 v56.lt
  have v77 := v76.below hb7 v76.lt
  have HP7 := Lib.hid (HP6.out.below hb7)
  clear c0 c1 c2 hb7 hB6 v56 v76 HP6
  have d0 := v77.cell 0 rfl
  have d1 := v77.cell 1 rfl
  have d2 := v77.cell 2 rfl
  have d3 := v77.cell 3 rfl
  go_wp2_with fail
  refine (HS1.out w7 _ _ _ _ HP7.out (hg.below hB7)).mono ?_
  rintro e w8 ⟨_, rfl, rfl, hb8⟩
  have hB8 := hB7.trans (hb8.mono hB7.size)
  have v58 := v57.below hb8 v57.lt
  have v78 := v77.below hb8 v77.lt
  have HP8 := Lib.hid (HP7.out.below hb8)
  clear d0 d1 d2 d3 hb8 hB7 v57 v77 HP7
  go_upto_region 13 with fail
  obtain ⟨W9, hW9⟩ : ∃ W, W = w8.alloc (.cells #[.string sa, .string sb] 54) := ⟨_, rfl⟩
  have hb9 : Below w8.heap.size w8 W9 := by rw [hW9]; exact (Below.refl _ _).alloc (Nat.le_refl _) _
  have va9 : BoxN W9 w8.heap.size 54 [.string sa, .string sb] := by rw [hW9]; exact BoxN.new _ _ _ _ rfl
  rw [← hW9]
  clear hW9
  have hB9 := hB8.trans (hb9.mono hB8.size)
  have v59 := v58.below hb9 v58.lt
  have v79 := v78.below hb9 v78.lt
  have HP9 := Lib.hid (HP8.out.below hb9)
  clear hb9 hB8 v58 v78 HP8
  have d0 := v79.cell 0 rfl
  have d1 := v79.cell 1 rfl
  have d2 := v79.cell 2 rfl
  have d3 := v79.cell 3 rfl
  go_wp2_with fail
  refine (HS2.out W9 _ _ _ _ HP9.out (hg.below hB9)).mono ?_
  rintro e w10 ⟨_, rfl, rfl, hb10⟩
  have hB10 := hB9.trans (hb10.mono hB9.size)
  have v510 := v59.below hb10 v59.lt
  have v710 := v79.below hb10 v79.lt
  have va10 := va9.below hb10 va9.lt
  have HP10 := Lib.hid (HP9.out.below hb10)
  clear d0 d1 d2 d3 hb10 hB9 v59 v79 HP9 va9
  go_upto_region 14 with fail
  obtain ⟨W11, hW11⟩ : ∃ W, W = w10.alloc (.cells #[.string ua, .string ub] 54) := ⟨_, rfl⟩
  have hb11 : Below w10.heap.size w10 W11 := by rw [hW11]; exact (Below.refl _ _).alloc (Nat.le_refl _) _
  have vb11 : BoxN W11 w10.heap.size 54 [.string ua, .string ub] := by rw [hW11]; exact BoxN.new _ _ _ _ rfl
  rw [← hW11]
  clear hW11
  have hB11 := hB10.trans (hb11.mono hB10.size)
  have v511 := v510.below hb11 v510.lt
  have v711 := v710.below hb11 v710.lt
  have va11 := va10.below hb11 va10.lt
  have HP11 := Lib.hid (HP10.out.below hb11)
  clear hb11 hB10 v510 v710 HP10 va10
  have x0 := va11.cell 0 rfl
  have x1 := va11.cell 1 rfl
  have y0 := vb11.cell 0 rfl
  have y1 := vb11.cell 1 rfl
  rcases hdf.out with e1 | ⟨e1, e2⟩
  · go_wp2_with fail
    all_goals
      go_ret
      exact ⟨_, rfl, rfl, hB11⟩
  · go_wp2_with fail
    all_goals
      go_ret
      exact ⟨_, rfl, rfl, hB11⟩

set_option maxHeartbeats 8000000 in
set_option maxRecDepth 100000 in
theorem planes_differ2 (w : World) (kz s0 s1 : Int) (half : Bool) (a0 a1 a2 a3 a4 a5 : Int) (ah : Bool) (b0 b1 b2 b3 b4 b5 : Int) (bh even : Bool) (add tz : Int) (x y z : ByteArray) (P : List PtQ) (T : List Tri) (L U : List Rat) (hx : x.size ≤ 20) (hy : y.size ≤ 20) (hz : z.size ≤ 20) (t : Nat) (htz : tz = (t : Int)) (htl : t < T.length) (sa sb ua ub : ByteArray)
    (HS1 : Hid (∀ (w : World) (vp vt vl vu : Value), PairIn w vp vt vl vu P T 2 L U → Good w → Calls Tryz.prog 16 #[.agg #[vp, vt], vl, .int .i64 tz] w (Ret (fun r _ => r = .tuple #[.agg #[.string sa, .string sb], .int .i64 0]) w)))
    (HS2 : Hid (∀ (w : World) (vp vt vl vu : Value), PairIn w vp vt vl vu P T 2 L U → Good w → Calls Tryz.prog 16 #[.agg #[vp, vt], vu, .int .i64 tz] w (Ret (fun r _ => r = .tuple #[.agg #[.string ua, .string ub], .int .i64 0]) w)))
    (hdf : Hid ((¬ sa.toList = ua.toList) ∨ (sa.toList = ua.toList ∧ ¬ sb.toList = ub.toList)))
    (HMK : Hid (∀ w, Good w → Calls Tryz.prog 11 #[.agg #[.int .u8 kz, .int .i8 s0, .int .i8 s1, .bool half, .int .i8 a0, .int .i8 a1, .int .i8 a2, .int .i8 a3, .int .i8 a4, .int .i8 a5, .bool ah, .int .i8 b0, .int .i8 b1, .int .i8 b2, .int .i8 b3, .int .i8 b4, .int .i8 b5, .bool bh, .bool even, .int .i8 add]] w (Ret (fun r w' => ∃ vp vt vl vu, r = .agg #[vp, vt, vl, vu] ∧ PairIn w' vp vt vl vu P T 2 L U) w)))
    (HPA : Hid (∀ (w : World) (vp vt vl vu : Value), PairIn w vp vt vl vu P T 2 L U → Good w → Calls Tryz.prog 12 #[.agg #[vp, vt, vl, vu], .int .i64 tz] w (Ret (fun r _ => r = .tuple #[.bool false, .int .i64 0]) w)))
    (HSQ : Hid (∀ (w : World) (vp vt vl vu : Value), PairIn w vp vt vl vu P T 2 L U → Good w → Calls Tryz.prog 13 #[.agg #[vp, vt, vl, vu], .int .i64 tz] w (Ret (fun r _ => r = .tuple #[.string ⟨#[]⟩, .int .i64 7]) w)))
    (HTW : Hid (∀ (w : World) (vp vt vl vu : Value), PairIn w vp vt vl vu P T 2 L U → Good w → Calls Tryz.prog 14 #[.agg #[vp, vt, vl, vu], .int .i64 tz, .agg #[.string x, .string y, .string z]] w (Ret (fun r _ => r = .tuple #[.string ⟨#[]⟩, .int .i64 2]) w)))
    (HV : Hid (∀ w, Good w → Calls Tryz.prog 15 #[.agg #[.string x, .string y, .string z]] w (Ret (fun r _ => r = .int .i64 2) w))) (hg : Good w) :
    Calls Tryz.prog 3 #[.agg #[.int .u8 kz, .int .i8 s0, .int .i8 s1, .bool half, .int .i8 a0, .int .i8 a1, .int .i8 a2, .int .i8 a3, .int .i8 a4, .int .i8 a5, .bool ah, .int .i8 b0, .int .i8 b1, .int .i8 b2, .int .i8 b3, .int .i8 b4, .int .i8 b5, .bool bh, .bool even, .int .i8 add], .int .i64 tz, .agg #[.string x, .string y, .string z]] w (Ret (fun r _ => r = .bool true) w) := by
  have ht2 : (t : Int) < (T.length : Int) := by omega
  subst htz
  go_enter Tryz.func3, Tryz.ntmps3
  go_upto_region 1 with fail
  obtain ⟨W, hW⟩ : ∃ W, W = (w.alloc (.cells #[.int .u8 kz, .int .i8 s0, .int .i8 s1, .bool half, .int .i8 a0, .int .i8 a1, .int .i8 a2, .int .i8 a3, .int .i8 a4, .int .i8 a5, .bool ah, .int .i8 b0, .int .i8 b1, .int .i8 b2, .int .i8 b3, .int .i8 b4, .int .i8 b5, .bool bh, .bool even, .int .i8 add] 32)).alloc (.cells #[.string x, .string y, .string z] 35) := ⟨_, rfl⟩
  have hB : Below w.heap.size w W := by rw [hW]; exact ((Below.refl _ _).alloc (Nat.le_refl _) _).alloc (by simp) _
  have v5 : BoxN W (w.heap.size + 1) 35 [.string x, .string y, .string z] := by rw [hW]; exact BoxN.new _ _ _ _ (by simp)
  have v3 : BoxN W w.heap.size 32 [.int .u8 kz, .int .i8 s0, .int .i8 s1, .bool half, .int .i8 a0, .int .i8 a1, .int .i8 a2, .int .i8 a3, .int .i8 a4, .int .i8 a5, .bool ah, .int .i8 b0, .int .i8 b1, .int .i8 b2, .int .i8 b3, .int .i8 b4, .int .i8 b5, .bool bh, .bool even, .int .i8 add] := by
    rw [hW]
    have h1 := (BoxN.new w #[.int .u8 kz, .int .i8 s0, .int .i8 s1, .bool half, .int .i8 a0, .int .i8 a1, .int .i8 a2, .int .i8 a3, .int .i8 a4, .int .i8 a5, .bool ah, .int .i8 b0, .int .i8 b1, .int .i8 b2, .int .i8 b3, .int .i8 b4, .int .i8 b5, .bool bh, .bool even, .int .i8 add] 32 _ rfl)
    exact h1.below ((Below.refl _ _).alloc (Nat.le_refl _) _) h1.lt
  rw [← hW]
  clear hW
  go_cut [37] (fun s37 wx => s37 = .bool false ∧ Below W.heap.size W wx)
  case first =>
    go_wp2_with fail
    refine (known_any W (hg.below hB)).mono ?_
    rintro e w1 ⟨_, rfl, rfl, hb1⟩
    have v51 := v5.below hb1 v5.lt
    have c0 := v51.cell 0 rfl
    have c1 := v51.cell 1 rfl
    have c2 := v51.cell 2 rfl
    have hx' : (x.size : Int) ≤ 20 := by omega
    have hy' : (y.size : Int) ≤ 20 := by omega
    have hz' : (z.size : Int) ≤ 20 := by omega
    go_wp2_with fail
    all_goals
      go_meet
      exact ⟨congrArg Value.bool (decide_eq_false (by omega)), hb1⟩
  case rest =>
  obtain ⟨rfl, hb1⟩ := hcut
  obtain ⟨w1, hw1⟩ : ∃ w1, w1 = wc := ⟨_, rfl⟩
  rw [← hw1] at hb1 ⊢
  clear hw1
  have hB1 := hB.trans (hb1.mono hB.size)
  have v51 := v5.below hb1 v5.lt
  have v31 := v3.below hb1 v3.lt
  have hrange : w1.rangeAt w.heap.size 0 [.int .u8 kz, .int .i8 s0, .int .i8 s1, .bool half, .int .i8 a0, .int .i8 a1, .int .i8 a2, .int .i8 a3, .int .i8 a4, .int .i8 a5, .bool ah, .int .i8 b0, .int .i8 b1, .int .i8 b2, .int .i8 b3, .int .i8 b4, .int .i8 b5, .bool bh, .bool even, .int .i8 add] := fun j v hv => by rw [Nat.zero_add]; exact v31.cell j hv
  clear hb1 hB v5 v3
  go_upto_region 3 with fail
  go_wp2_with (refine wpList_load_mid (by rfl) 32 (.tmp 3) (by rfl) w.heap.size 0 (by rfl) [.int .u8 kz, .int .i8 s0, .int .i8 s1, .bool half, .int .i8 a0, .int .i8 a1, .int .i8 a2, .int .i8 a3, .int .i8 a4, .int .i8 a5, .bool ah, .int .i8 b0, .int .i8 b1, .int .i8 b2, .int .i8 b3, .int .i8 b4, .int .i8 b5, .bool bh, .bool even, .int .i8 add] _ hrange Tryz.underlying32 (by rfl) (by kernel_rfl) ?_)
  refine (HMK.out w1 (hg.below hB1)).mono ?_
  rintro e w2 ⟨_, rfl, ⟨vp, vt, vl, vu, rfl, hPI⟩, hb2⟩
  obtain ⟨pp, cp, pt, ct, pl, cl, pu, cu, rfl, rfl, rfl, rfl⟩ := hPI.open
  have hB2 := hB1.trans (hb2.mono hB1.size)
  have v52 := v51.below hb2 v51.lt
  clear hrange v31 hb2 hB1 v51
  go_upto_region 4 with fail
  obtain ⟨W3, hW3⟩ : ∃ W, W = w2.alloc (.cells #[.slice pp P.length cp, .slice pt T.length ct, .slice pl L.length cl, .slice pu U.length cu] 44) := ⟨_, rfl⟩
  have hb3 : Below w2.heap.size w2 W3 := by rw [hW3]; exact (Below.refl _ _).alloc (Nat.le_refl _) _
  have v7 : BoxN W3 w2.heap.size 44 [.slice pp P.length cp, .slice pt T.length ct, .slice pl L.length cl, .slice pu U.length cu] := by rw [hW3]; exact BoxN.new _ _ _ _ rfl
  rw [← hW3]
  clear hW3
  have hB3 := hB2.trans (hb3.mono hB2.size)
  have v53 := v52.below hb3 v52.lt
  have HP3 := Lib.hid (hPI.below hb3)
  have d0 := v7.cell 0 rfl
  have d1 := v7.cell 1 rfl
  have d2 := v7.cell 2 rfl
  have d3 := v7.cell 3 rfl
  clear hPI hb3 hB2 v52
  go_wp2_with fail
  refine (HPA.out W3 _ _ _ _ HP3.out (hg.below hB3)).mono ?_
  rintro e w4 ⟨_, rfl, rfl, hb4⟩
  have hB4 := hB3.trans (hb4.mono hB3.size)
  have v54 := v53.below hb4 v53.lt
  have v74 := v7.below hb4 v7.lt
  have HP4 := Lib.hid (HP3.out.below hb4)
  clear d0 d1 d2 d3 hb4 hB3 v53 v7 HP3
  have d0 := v74.cell 0 rfl
  have d1 := v74.cell 1 rfl
  have d2 := v74.cell 2 rfl
  have d3 := v74.cell 3 rfl
  go_wp2_with fail
  refine (HSQ.out w4 _ _ _ _ HP4.out (hg.below hB4)).mono ?_
  rintro e w5 ⟨_, rfl, rfl, hb5⟩
  have hB5 := hB4.trans (hb5.mono hB4.size)
  have v55 := v54.below hb5 v54.lt
  have v75 := v74.below hb5 v74.lt
  have HP5 := Lib.hid (HP4.out.below hb5)
  clear d0 d1 d2 d3 hb5 hB4 v54 v74 HP4
  have d0 := v75.cell 0 rfl
  have d1 := v75.cell 1 rfl
  have d2 := v75.cell 2 rfl
  have d3 := v75.cell 3 rfl
  have c0 := v55.cell 0 rfl
  have c1 := v55.cell 1 rfl
  have c2 := v55.cell 2 rfl
  go_wp2_with fail
  refine (HTW.out w5 _ _ _ _ HP5.out (hg.below hB5)).mono ?_
  rintro e w6 ⟨_, rfl, rfl, hb6⟩
  have hB6 := hB5.trans (hb6.mono hB5.size)
  have v56 := v55.below hb6 v55.lt
  have v76 := v75.below hb6 v75.lt
  have HP6 := Lib.hid (HP5.out.below hb6)
  clear d0 d1 d2 d3 c0 c1 c2 hb6 hB5 v55 v75 HP5
  have c0 := v56.cell 0 rfl
  have c1 := v56.cell 1 rfl
  have c2 := v56.cell 2 rfl
  go_wp2_with fail
  refine (HV.out w6 (hg.below hB6)).mono ?_
  rintro e w7 ⟨_, rfl, rfl, hb7⟩
  have hB7 := hB6.trans (hb7.mono hB6.size)
  have v57 := v56.below hb7 v56.lt
  have v77 := v76.below hb7 v76.lt
  have HP7 := Lib.hid (HP6.out.below hb7)
  clear c0 c1 c2 hb7 hB6 v56 v76 HP6
  have d0 := v77.cell 0 rfl
  have d1 := v77.cell 1 rfl
  have d2 := v77.cell 2 rfl
  have d3 := v77.cell 3 rfl
  go_wp2_with fail
  refine (HS1.out w7 _ _ _ _ HP7.out (hg.below hB7)).mono ?_
  rintro e w8 ⟨_, rfl, rfl, hb8⟩
  have hB8 := hB7.trans (hb8.mono hB7.size)
  have v58 := v57.below hb8 v57.lt
  have v78 := v77.below hb8 v77.lt
  have HP8 := Lib.hid (HP7.out.below hb8)
  clear d0 d1 d2 d3 hb8 hB7 v57 v77 HP7
  go_upto_region 13 with fail
  obtain ⟨W9, hW9⟩ : ∃ W, W = w8.alloc (.cells #[.string sa, .string sb] 54) := ⟨_, rfl⟩
  have hb9 : Below w8.heap.size w8 W9 := by rw [hW9]; exact (Below.refl _ _).alloc (Nat.le_refl _) _
  have va9 : BoxN W9 w8.heap.size 54 [.string sa, .string sb] := by rw [hW9]; exact BoxN.new _ _ _ _ rfl
  rw [← hW9]
  clear hW9
  have hB9 := hB8.trans (hb9.mono hB8.size)
  have v59 := v58.below hb9 v58.lt
  have v79 := v78.below hb9 v78.lt
  have HP9 := Lib.hid (HP8.out.below hb9)
  clear hb9 hB8 v58 v78 HP8
  have d0 := v79.cell 0 rfl
  have d1 := v79.cell 1 rfl
  have d2 := v79.cell 2 rfl
  have d3 := v79.cell 3 rfl
  go_wp2_with fail
  refine (HS2.out W9 _ _ _ _ HP9.out (hg.below hB9)).mono ?_
  rintro e w10 ⟨_, rfl, rfl, hb10⟩
  have hB10 := hB9.trans (hb10.mono hB9.size)
  have v510 := v59.below hb10 v59.lt
  have v710 := v79.below hb10 v79.lt
  have va10 := va9.below hb10 va9.lt
  have HP10 := Lib.hid (HP9.out.below hb10)
  clear d0 d1 d2 d3 hb10 hB9 v59 v79 HP9 va9
  go_upto_region 14 with fail
  obtain ⟨W11, hW11⟩ : ∃ W, W = w10.alloc (.cells #[.string ua, .string ub] 54) := ⟨_, rfl⟩
  have hb11 : Below w10.heap.size w10 W11 := by rw [hW11]; exact (Below.refl _ _).alloc (Nat.le_refl _) _
  have vb11 : BoxN W11 w10.heap.size 54 [.string ua, .string ub] := by rw [hW11]; exact BoxN.new _ _ _ _ rfl
  rw [← hW11]
  clear hW11
  have hB11 := hB10.trans (hb11.mono hB10.size)
  have v511 := v510.below hb11 v510.lt
  have v711 := v710.below hb11 v710.lt
  have va11 := va10.below hb11 va10.lt
  have HP11 := Lib.hid (HP10.out.below hb11)
  clear hb11 hB10 v510 v710 HP10 va10
  have x0 := va11.cell 0 rfl
  have x1 := va11.cell 1 rfl
  have y0 := vb11.cell 0 rfl
  have y1 := vb11.cell 1 rfl
  rcases hdf.out with e1 | ⟨e1, e2⟩
  · go_wp2_with fail
    all_goals
      go_ret
      exact ⟨_, rfl, rfl, hB11⟩
  · go_wp2_with fail
    all_goals
      go_ret
      exact ⟨_, rfl, rfl, hB11⟩

end Go.Proofs.YtjfjkiibmfgplaaGreatDoor
