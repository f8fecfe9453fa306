/- The walk over klippelaw38.ThicknessPlanes: equal slopes, a direction that is not right. -/
import Derived.Test.YtjfjkiibmfgplaaGreatDoorZ3
import Derived.Test.YtjfjkiibmfgplaaGreatDoorZ2
import Derived.Deep.MidRow
import Derived.Deep.DeepCutAuto
namespace Go.Proofs.YtjfjkiibmfgplaaGreatDoor
open Go.RowKit Go.Lib


set_option maxHeartbeats 8000000 in
set_option maxRecDepth 100000 in
theorem planes_equal2 (w : World) (kz s0 s1 : Int) (half : Bool) (a0 a1 a2 a3 a4 a5 : Int) (ah : Bool) (b0 b1 b2 b3 b4 b5 : Int) (bh even : Bool) (add tz : Int) (x y z : ByteArray) (P : List PtQ) (T : List Tri) (L U : List Rat) (hx : x.size ≤ 20) (hy : y.size ≤ 20) (hz : z.size ≤ 20) (t : Nat) (htz : tz = (t : Int)) (htl : t < T.length) (sa sb : ByteArray)
    (HS1 : Hid (∀ (w : World) (vp vt vl vu : Value), PairIn w vp vt vl vu P T 2 L U → Good w → Calls Tryz.prog 16 #[.agg #[vp, vt], vl, .int .i64 tz] w (Ret (fun r _ => r = .tuple #[.agg #[.string sa, .string sb], .int .i64 0]) w)))
    (HS2 : Hid (∀ (w : World) (vp vt vl vu : Value), PairIn w vp vt vl vu P T 2 L U → Good w → Calls Tryz.prog 16 #[.agg #[vp, vt], vu, .int .i64 tz] w (Ret (fun r _ => r = .tuple #[.agg #[.string sa, .string sb], .int .i64 0]) w))) (m : Nat) (hm : T[t].1 = (m : Int)) (hm1 : m < L.length) (hm2 : m < U.length) (l0 u0 : ByteArray) (hl0 : RS (hI L (m : Int)) = l0) (hu0 : RS (hI U (m : Int)) = u0) (dd m1 m2 p1 p2 sq qq : ByteArray)
    (HD : Hid (∀ w, Good w → Calls Tryz.prog 17 #[.string u0, .string l0] w (Ret (fun r _ => r = .string dd) w)))
    (HM1 : Hid (∀ w, Good w → Calls Tryz.prog 19 #[.string sa, .string sa] w (Ret (fun r _ => r = .string m1) w)))
    (HM2 : Hid (∀ w, Good w → Calls Tryz.prog 19 #[.string sb, .string sb] w (Ret (fun r _ => r = .string m2) w)))
    (HA1 : Hid (∀ w, Good w → Calls Tryz.prog 18 #[.string m1, .string m2] w (Ret (fun r _ => r = .string p1) w)))
    (HA2 : Hid (∀ w, Good w → Calls Tryz.prog 18 #[.string ⟨#[49]⟩, .string p1] w (Ret (fun r _ => r = .string p2) w)))
    (HSD : Hid (∀ w, Good w → Calls Tryz.prog 19 #[.string dd, .string dd] w (Ret (fun r _ => r = .string sq) w)))
    (HQ : Hid (∀ w, Good w → Calls Tryz.prog 20 #[.string sq, .string p2] w (Ret (fun r _ => r = .string qq) w)))
    (HMK : Hid (∀ w, Good w → Calls Tryz.prog 11 #[.agg #[.int .u8 kz, .int .i8 s0, .int .i8 s1, .bool half, .int .i8 a0, .int .i8 a1, .int .i8 a2, .int .i8 a3, .int .i8 a4, .int .i8 a5, .bool ah, .int .i8 b0, .int .i8 b1, .int .i8 b2, .int .i8 b3, .int .i8 b4, .int .i8 b5, .bool bh, .bool even, .int .i8 add]] w (Ret (fun r w' => ∃ vp vt vl vu, r = .agg #[vp, vt, vl, vu] ∧ PairIn w' vp vt vl vu P T 2 L U) w)))
    (HPA : Hid (∀ (w : World) (vp vt vl vu : Value), PairIn w vp vt vl vu P T 2 L U → Good w → Calls Tryz.prog 12 #[.agg #[vp, vt, vl, vu], .int .i64 tz] w (Ret (fun r _ => r = .tuple #[.bool true, .int .i64 0]) w)))
    (HSQ : Hid (∀ (w : World) (vp vt vl vu : Value), PairIn w vp vt vl vu P T 2 L U → Good w → Calls Tryz.prog 13 #[.agg #[vp, vt, vl, vu], .int .i64 tz] w (Ret (fun r _ => r = .tuple #[.string qq, .int .i64 0]) w)))
    (HTW : Hid (∀ (w : World) (vp vt vl vu : Value), PairIn w vp vt vl vu P T 2 L U → Good w → Calls Tryz.prog 14 #[.agg #[vp, vt, vl, vu], .int .i64 tz, .agg #[.string x, .string y, .string z]] w (Ret (fun r _ => r = .tuple #[.string ⟨#[]⟩, .int .i64 2]) w)))
    (HV : Hid (∀ w, Good w → Calls Tryz.prog 15 #[.agg #[.string x, .string y, .string z]] w (Ret (fun r _ => r = .int .i64 2) w))) (hg : Good w) :
    Calls Tryz.prog 3 #[.agg #[.int .u8 kz, .int .i8 s0, .int .i8 s1, .bool half, .int .i8 a0, .int .i8 a1, .int .i8 a2, .int .i8 a3, .int .i8 a4, .int .i8 a5, .bool ah, .int .i8 b0, .int .i8 b1, .int .i8 b2, .int .i8 b3, .int .i8 b4, .int .i8 b5, .bool bh, .bool even, .int .i8 add], .int .i64 tz, .agg #[.string x, .string y, .string z]] w (Ret (fun r _ => r = .bool true) w) := by
  have ht2 : (t : Int) < (T.length : Int) := by omega
  have hm3 : (m : Int) < (L.length : Int) := by omega
  have hm4 : (m : Int) < (U.length : Int) := by omega
  have i0 := idx_T0
  subst htz
  go_enter Tryz.func3, Tryz.ntmps3
  go_upto_region 1 with fail
  obtain ⟨W, hW⟩ : ∃ W, W = (w.alloc (.cells #[.int .u8 kz, .int .i8 s0, .int .i8 s1, .bool half, .int .i8 a0, .int .i8 a1, .int .i8 a2, .int .i8 a3, .int .i8 a4, .int .i8 a5, .bool ah, .int .i8 b0, .int .i8 b1, .int .i8 b2, .int .i8 b3, .int .i8 b4, .int .i8 b5, .bool bh, .bool even, .int .i8 add] 32)).alloc (.cells #[.string x, .string y, .string z] 35) := ⟨_, rfl⟩
  have hB : Below w.heap.size w W := by rw [hW]; exact ((Below.refl _ _).alloc (Nat.le_refl _) _).alloc (by simp) _
  have v5 : BoxN W (w.heap.size + 1) 35 [.string x, .string y, .string z] := by rw [hW]; exact BoxN.new _ _ _ _ (by simp)
  have v3 : BoxN W w.heap.size 32 [.int .u8 kz, .int .i8 s0, .int .i8 s1, .bool half, .int .i8 a0, .int .i8 a1, .int .i8 a2, .int .i8 a3, .int .i8 a4, .int .i8 a5, .bool ah, .int .i8 b0, .int .i8 b1, .int .i8 b2, .int .i8 b3, .int .i8 b4, .int .i8 b5, .bool bh, .bool even, .int .i8 add] := by
    rw [hW]
    have h1 := (BoxN.new w #[.int .u8 kz, .int .i8 s0, .int .i8 s1, .bool half, .int .i8 a0, .int .i8 a1, .int .i8 a2, .int .i8 a3, .int .i8 a4, .int .i8 a5, .bool ah, .int .i8 b0, .int .i8 b1, .int .i8 b2, .int .i8 b3, .int .i8 b4, .int .i8 b5, .bool bh, .bool even, .int .i8 add] 32 _ rfl)
    exact h1.below ((Below.refl _ _).alloc (Nat.le_refl _) _) h1.lt
  rw [← hW]
  clear hW
  go_cut [37] (fun s37 wx => s37 = .bool false ∧ Below W.heap.size W wx)
  case first =>
    go_wp2_with fail
    refine (known_any W (hg.below hB)).mono ?_
    rintro e w1 ⟨_, rfl, rfl, hb1⟩
    have v51 := v5.below hb1 v5.lt
    have c0 := v51.cell 0 rfl
    have c1 := v51.cell 1 rfl
    have c2 := v51.cell 2 rfl
    have hx' : (x.size : Int) ≤ 20 := by omega
    have hy' : (y.size : Int) ≤ 20 := by omega
    have hz' : (z.size : Int) ≤ 20 := by omega
    go_wp2_with fail
    all_goals
      go_meet
      exact ⟨congrArg Value.bool (decide_eq_false (by omega)), hb1⟩
  case rest =>
  obtain ⟨rfl, hb1⟩ := hcut
  obtain ⟨w1, hw1⟩ : ∃ w1, w1 = wc := ⟨_, rfl⟩
  rw [← hw1] at hb1 ⊢
  clear hw1
  have hB1 := hB.trans (hb1.mono hB.size)
  have v51 := v5.below hb1 v5.lt
  have v31 := v3.below hb1 v3.lt
  have hrange : w1.rangeAt w.heap.size 0 [.int .u8 kz, .int .i8 s0, .int .i8 s1, .bool half, .int .i8 a0, .int .i8 a1, .int .i8 a2, .int .i8 a3, .int .i8 a4, .int .i8 a5, .bool ah, .int .i8 b0, .int .i8 b1, .int .i8 b2, .int .i8 b3, .int .i8 b4, .int .i8 b5, .bool bh, .bool even, .int .i8 add] := fun j v hv => by rw [Nat.zero_add]; exact v31.cell j hv
  clear hb1 hB v5 v3
  go_upto_region 3 with fail
  go_wp2_with (refine wpList_load_mid (by rfl) 32 (.tmp 3) (by rfl) w.heap.size 0 (by rfl) [.int .u8 kz, .int .i8 s0, .int .i8 s1, .bool half, .int .i8 a0, .int .i8 a1, .int .i8 a2, .int .i8 a3, .int .i8 a4, .int .i8 a5, .bool ah, .int .i8 b0, .int .i8 b1, .int .i8 b2, .int .i8 b3, .int .i8 b4, .int .i8 b5, .bool bh, .bool even, .int .i8 add] _ hrange Tryz.underlying32 (by rfl) (by kernel_rfl) ?_)
  refine (HMK.out w1 (hg.below hB1)).mono ?_
  rintro e w2 ⟨_, rfl, ⟨vp, vt, vl, vu, rfl, hPI⟩, hb2⟩
  obtain ⟨pp, cp, pt, ct, pl, cl, pu, cu, rfl, rfl, rfl, rfl⟩ := hPI.open
  have hB2 := hB1.trans (hb2.mono hB1.size)
  have v52 := v51.below hb2 v51.lt
  clear hrange v31 hb2 hB1 v51
  go_upto_region 4 with fail
  obtain ⟨W3, hW3⟩ : ∃ W, W = w2.alloc (.cells #[.slice pp P.length cp, .slice pt T.length ct, .slice pl L.length cl, .slice pu U.length cu] 44) := ⟨_, rfl⟩
  have hb3 : Below w2.heap.size w2 W3 := by rw [hW3]; exact (Below.refl _ _).alloc (Nat.le_refl _) _
  have v7 : BoxN W3 w2.heap.size 44 [.slice pp P.length cp, .slice pt T.length ct, .slice pl L.length cl, .slice pu U.length cu] := by rw [hW3]; exact BoxN.new _ _ _ _ rfl
  rw [← hW3]
  clear hW3
  have hB3 := hB2.trans (hb3.mono hB2.size)
  have v53 := v52.below hb3 v52.lt
  have HP3 := Lib.hid (hPI.below hb3)
  have d0 := v7.cell 0 rfl
  have d1 := v7.cell 1 rfl
  have d2 := v7.cell 2 rfl
  have d3 := v7.cell 3 rfl
  clear hPI hb3 hB2 v52
  go_wp2_with fail
  refine (HPA.out W3 _ _ _ _ HP3.out (hg.below hB3)).mono ?_
  rintro e w4 ⟨_, rfl, rfl, hb4⟩
  have hB4 := hB3.trans (hb4.mono hB3.size)
  have v54 := v53.below hb4 v53.lt
  have v74 := v7.below hb4 v7.lt
  have HP4 := Lib.hid (HP3.out.below hb4)
  clear d0 d1 d2 d3 hb4 hB3 v53 v7 HP3
  have d0 := v74.cell 0 rfl
  have d1 := v74.cell 1 rfl
  have d2 := v74.cell 2 rfl
  have d3 := v74.cell 3 rfl
  go_wp2_with fail
  refine (HSQ.out w4 _ _ _ _ HP4.out (hg.below hB4)).mono ?_
  rintro e w5 ⟨_, rfl, rfl, hb5⟩
  have hB5 := hB4.trans (hb5.mono hB4.size)
  have v55 := v54.below hb5 v54.lt
  have v75 := v74.below hb5 v74.lt
  have HP5 := Lib.hid (HP4.out.below hb5)
  clear d0 d1 d2 d3 hb5 hB4 v54 v74 HP4
  have d0 := v75.cell 0 rfl
  have d1 := v75.cell 1 rfl
  have d2 := v75.cell 2 rfl
  have d3 := v75.cell 3 rfl
  have c0 := v55.cell 0 rfl
  have c1 := v55.cell 1 rfl
  have c2 := v55.cell 2 rfl
  go_wp2_with fail
  refine (HTW.out w5 _ _ _ _ HP5.out (hg.below hB5)).mono ?_
  rintro e w6 ⟨_, rfl, rfl, hb6⟩
  have hB6 := hB5.trans (hb6.mono hB5.size)
  have v56 := v55.below hb6 v55.lt
  have v76 := v75.below hb6 v75.lt
  have HP6 := Lib.hid (HP5.out.below hb6)
  clear d0 d1 d2 d3 c0 c1 c2 hb6 hB5 v55 v75 HP5
  have c0 := v56.cell 0 rfl
  have c1 := v56.cell 1 rfl
  have c2 := v56.cell 2 rfl
  go_wp2_with fail
  refine (HV.out w6 (hg.below hB6)).mono ?_
  rintro e w7 ⟨_, rfl, rfl, hb7⟩
  have hB7 := hB6.trans (hb7.mono hB6.size)
  have v57 := v56.below hb7 v56.lt
  have v77 := v76.below hb7 v76.lt
  have HP7 := Lib.hid (HP6.out.below hb7)
  clear c0 c1 c2 hb7 hB6 v56 v76 HP6
  have d0 := v77.cell 0 rfl
  have d1 := v77.cell 1 rfl
  have d2 := v77.cell 2 rfl
  have d3 := v77.cell 3 rfl
  go_wp2_with fail
  refine (HS1.out w7 _ _ _ _ HP7.out (hg.below hB7)).mono ?_
  rintro e w8 ⟨_, rfl, rfl, hb8⟩
  have hB8 := hB7.trans (hb8.mono hB7.size)
  have v58 := v57.below hb8 v57.lt
  have v78 := v77.below hb8 v77.lt
  have HP8 := Lib.hid (HP7.out.below hb8)
  clear d0 d1 d2 d3 hb8 hB7 v57 v77 HP7
  go_upto_region 13 with fail
  obtain ⟨W9, hW9⟩ : ∃ W, W = w8.alloc (.cells #[.string sa, .string sb] 54) := ⟨_, rfl⟩
  have hb9 : Below w8.heap.size w8 W9 := by rw [hW9]; exact (Below.refl _ _).alloc (Nat.le_refl _) _
  have va9 : BoxN W9 w8.heap.size 54 [.string sa, .string sb] := by rw [hW9]; exact BoxN.new _ _ _ _ rfl
  rw [← hW9]
  clear hW9
  have hB9 := hB8.trans (hb9.mono hB8.size)
  have v59 := v58.below hb9 v58.lt
  have v79 := v78.below hb9 v78.lt
  have HP9 := Lib.hid (HP8.out.below hb9)
  clear hb9 hB8 v58 v78 HP8
  have d0 := v79.cell 0 rfl
  have d1 := v79.cell 1 rfl
  have d2 := v79.cell 2 rfl
  have d3 := v79.cell 3 rfl
  go_wp2_with fail
  refine (HS2.out W9 _ _ _ _ HP9.out (hg.below hB9)).mono ?_
  rintro e w10 ⟨_, rfl, rfl, hb10⟩
  have hB10 := hB9.trans (hb10.mono hB9.size)
  have v510 := v59.below hb10 v59.lt
  have v710 := v79.below hb10 v79.lt
  have va10 := va9.below hb10 va9.lt
  have HP10 := Lib.hid (HP9.out.below hb10)
  clear d0 d1 d2 d3 hb10 hB9 v59 v79 HP9 va9
  go_upto_region 14 with fail
  obtain ⟨W11, hW11⟩ : ∃ W, W = w10.alloc (.cells #[.string sa, .string sb] 54) := ⟨_, rfl⟩
  have hb11 : Below w10.heap.size w10 W11 := by rw [hW11]; exact (Below.refl _ _).alloc (Nat.le_refl _) _
  have vb11 : BoxN W11 w10.heap.size 54 [.string sa, .string sb] := by rw [hW11]; exact BoxN.new _ _ _ _ rfl
  rw [← hW11]
  clear hW11
  have hB11 := hB10.trans (hb11.mono hB10.size)
  have v511 := v510.below hb11 v510.lt
  have v711 := v710.below hb11 v710.lt
  have va11 := va10.below hb11 va10.lt
  have HP11 := Lib.hid (HP10.out.below hb11)
  clear hb11 hB10 v510 v710 HP10 va10
  have x0 := va11.cell 0 rfl
  have x1 := va11.cell 1 rfl
  have y0 := vb11.cell 0 rfl
  have y1 := vb11.cell 1 rfl
  obtain ⟨bt, ot, ct', e0, hbt, k0, _, _⟩ := HP11.out.l.tri t htl
  cases e0
  rw [hm] at k0
  obtain ⟨bl, ol, cl', e0, hbl, k1⟩ := HP11.out.l.hgt m hm1
  cases e0
  rw [hl0] at k1
  obtain ⟨bu, ou, cu', e0, hbu, k2⟩ := HP11.out.u.hgt m hm2
  cases e0
  rw [hu0] at k2
  have d1 := v711.cell 1 rfl
  have d2 := v711.cell 2 rfl
  have d3 := v711.cell 3 rfl
  have hz1 := v711.lt
  have hgd : Good W11.drew := (hg.below hB11).drewN 1
  clear hm hl0 hu0 vb11 hm1 hm2 HP11
  go_upto_region 19 with fail
  go_region_held3 (fun w' => w'.cell? ⟨w2.heap.size, 3, none⟩ = some (.slice (some ⟨bu, ou, none⟩) U.length cu) ∧ w'.cell? ⟨w2.heap.size, 2, none⟩ = some (.slice (some ⟨bl, ol, none⟩) L.length cl) ∧ w'.cell? ⟨bu, ou + m, none⟩ = some (.string u0) ∧ w'.cell? ⟨bl, ol + m, none⟩ = some (.string l0))
    (first | exact ⟨d3, d2, k2, k1⟩ | exact ⟨p_1_0, p_1_1, p_1_2, p_1_3⟩)
    (first
    | (go_at_call 17; refine (HD.out _ hgd).mono ?_; rintro e pw1 ⟨_, rfl, rfl, pb1⟩
       have p_1_0 := (pb1.cell (p := ⟨w2.heap.size, 3, none⟩) (by show w2.heap.size < W11.heap.size; omega)).trans d3
       have p_1_1 := (pb1.cell (p := ⟨w2.heap.size, 2, none⟩) (by show w2.heap.size < W11.heap.size; omega)).trans d2
       have p_1_2 := (pb1.cell (p := ⟨bu, ou + m, none⟩) (by show bu < W11.heap.size; omega)).trans k2
       have p_1_3 := (pb1.cell (p := ⟨bl, ol + m, none⟩) (by show bl < W11.heap.size; omega)).trans k1
       have ps1 : W11.heap.size ≤ pw1.heap.size := pb1.size
       have pg1 : Good pw1 := hgd.below pb1))
  have pB : Below W11.heap.size W11 pw1 := ((below_drewN W11 1).trans (pb1.mono (by show W11.heap.size ≤ W11.heap.size; omega)))
  have hB12 := hB11.trans (pB.mono hB11.size)
  have v512 := v511.below pB v511.lt
  have va12 := va11.below pB va11.lt
  clear pB pb1 ps1 pg1 p_1_0 p_1_1 p_1_2 p_1_3 hB11 v511 v711 va11 x0 x1 y0 y1 k0 k1 k2 d1 d2 d3 hz1 hgd
  have x0 := va12.cell 0 rfl
  have x1 := va12.cell 1 rfl
  have hz2 := va12.lt
  have hgd : Good pw1.drew := (hg.below hB12).drewN 1
  go_upto_region 20 with fail
  go_region_held3 (fun w' => w'.cell? ⟨w8.heap.size, 0, none⟩ = some (.string sa) ∧ w'.cell? ⟨w8.heap.size, 1, none⟩ = some (.string sb))
    (first | exact ⟨x0, x1⟩ | exact ⟨q_1_0, q_1_1⟩ | exact ⟨q_2_0, q_2_1⟩ | exact ⟨q_3_0, q_3_1⟩ | exact ⟨q_4_0, q_4_1⟩)
    (first
    | (go_at_call 18; refine (HA2.out _ qg3).mono ?_; rintro e qw4 ⟨_, rfl, rfl, qb4⟩
       have q_4_0 := (qb4.cell (p := ⟨w8.heap.size, 0, none⟩) (by show w8.heap.size < qw3.heap.size; omega)).trans q_3_0
       have q_4_1 := (qb4.cell (p := ⟨w8.heap.size, 1, none⟩) (by show w8.heap.size < qw3.heap.size; omega)).trans q_3_1
       have qs4 : qw3.heap.size ≤ qw4.heap.size := qb4.size
       have qg4 : Good qw4 := qg3.below qb4)
    | (go_at_call 18; refine (HA1.out _ qg2).mono ?_; rintro e qw3 ⟨_, rfl, rfl, qb3⟩
       have q_3_0 := (qb3.cell (p := ⟨w8.heap.size, 0, none⟩) (by show w8.heap.size < qw2.heap.size; omega)).trans q_2_0
       have q_3_1 := (qb3.cell (p := ⟨w8.heap.size, 1, none⟩) (by show w8.heap.size < qw2.heap.size; omega)).trans q_2_1
       have qs3 : qw2.heap.size ≤ qw3.heap.size := qb3.size
       have qg3 : Good qw3 := qg2.below qb3)
    | (go_at_call 19; refine (HM2.out _ qg1).mono ?_; rintro e qw2 ⟨_, rfl, rfl, qb2⟩
       have q_2_0 := (qb2.cell (p := ⟨w8.heap.size, 0, none⟩) (by show w8.heap.size < qw1.heap.size; omega)).trans q_1_0
       have q_2_1 := (qb2.cell (p := ⟨w8.heap.size, 1, none⟩) (by show w8.heap.size < qw1.heap.size; omega)).trans q_1_1
       have qs2 : qw1.heap.size ≤ qw2.heap.size := qb2.size
       have qg2 : Good qw2 := qg1.below qb2)
    | (go_at_call 19; refine (HM1.out _ hgd).mono ?_; rintro e qw1 ⟨_, rfl, rfl, qb1⟩
       have q_1_0 := (qb1.cell (p := ⟨w8.heap.size, 0, none⟩) (by show w8.heap.size < pw1.heap.size; omega)).trans x0
       have q_1_1 := (qb1.cell (p := ⟨w8.heap.size, 1, none⟩) (by show w8.heap.size < pw1.heap.size; omega)).trans x1
       have qs1 : pw1.heap.size ≤ qw1.heap.size := qb1.size
       have qg1 : Good qw1 := hgd.below qb1))
  have qB : Below pw1.heap.size pw1 qw4 := (((((below_drewN pw1 1).trans (qb1.mono (by show pw1.heap.size ≤ pw1.heap.size; omega))).trans (qb2.mono (by show pw1.heap.size ≤ qw1.heap.size; omega))).trans (qb3.mono (by show pw1.heap.size ≤ qw2.heap.size; omega))).trans (qb4.mono (by show pw1.heap.size ≤ qw3.heap.size; omega)))
  have hB13 := hB12.trans (qB.mono hB12.size)
  have v513 := v512.below qB v512.lt
  have va13 := va12.below qB va12.lt
  have hg13 := hg.below hB13
  clear qB hB12 v512 va12 x0 x1 hz2 hgd
  go_wp2_with fail
  refine (HSD.out _ hg13).mono ?_
  rintro e w14 ⟨_, rfl, rfl, hb14⟩
  have hB14 := hB13.trans (hb14.mono hB13.size)
  have v514 := v513.below hb14 v513.lt
  have va14 := va13.below hb14 va13.lt
  clear hb14 hB13 v513 va13 hg13
  go_wp2_with fail
  refine (HQ.out _ (hg.below hB14)).mono ?_
  rintro e w15 ⟨_, rfl, rfl, hb15⟩
  have hB15 := hB14.trans (hb15.mono hB14.size)
  have v515 := v514.below hb15 v514.lt
  have va15 := va14.below hb15 va14.lt
  clear hb15 hB14 v514 va14
  go_wp2_with fail
  go_ret
  exact ⟨_, rfl, rfl, hB15⟩

end Go.Proofs.YtjfjkiibmfgplaaGreatDoor
