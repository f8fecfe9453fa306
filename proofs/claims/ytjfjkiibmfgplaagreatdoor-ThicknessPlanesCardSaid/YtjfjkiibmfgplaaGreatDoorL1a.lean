/- The walk over klippelaw38.ThicknessPlanes: a text that is too long; a number of a triangle out of range. -/
import Derived.Test.YtjfjkiibmfgplaaGreatDoorZ3
import Derived.Test.YtjfjkiibmfgplaaGreatDoorZ2
import Derived.Deep.MidRow
import Derived.Deep.DeepCutAuto
namespace Go.Proofs.YtjfjkiibmfgplaaGreatDoor
open Go.RowKit Go.Lib

set_option maxHeartbeats 4000000 in
set_option maxRecDepth 100000 in
/-- A text that is too long: the examples alone. -/
theorem planes_long (w : World) (kz s0 s1 : Int) (half : Bool) (a0 a1 a2 a3 a4 a5 : Int) (ah : Bool) (b0 b1 b2 b3 b4 b5 : Int) (bh even : Bool) (add tz : Int) (x y z : ByteArray)
    (hlen : 20 < x.size ∨ 20 < y.size ∨ 20 < z.size) (hx : x.size ≤ maxLen) (hy : y.size ≤ maxLen) (hz : z.size ≤ maxLen) (hg : Good w) :
    Calls Tryz.prog 3 #[.agg #[.int .u8 kz, .int .i8 s0, .int .i8 s1, .bool half, .int .i8 a0, .int .i8 a1, .int .i8 a2, .int .i8 a3, .int .i8 a4, .int .i8 a5, .bool ah, .int .i8 b0, .int .i8 b1, .int .i8 b2, .int .i8 b3, .int .i8 b4, .int .i8 b5, .bool bh, .bool even, .int .i8 add], .int .i64 tz, .agg #[.string x, .string y, .string z]] w (Ret (fun r _ => r = .bool true) w) := by
  have hmx : (20 : Int) < max (max (x.size : Int) (y.size : Int)) (z.size : Int) := by omega
  unfold maxLen at hx hy hz
  go_enter Tryz.func3, Tryz.ntmps3
  go_wp2_with fail
  obtain ⟨W, hW⟩ : ∃ W, W = (w.alloc (.cells #[.int .u8 kz, .int .i8 s0, .int .i8 s1, .bool half, .int .i8 a0, .int .i8 a1, .int .i8 a2, .int .i8 a3, .int .i8 a4, .int .i8 a5, .bool ah, .int .i8 b0, .int .i8 b1, .int .i8 b2, .int .i8 b3, .int .i8 b4, .int .i8 b5, .bool bh, .bool even, .int .i8 add] 32)).alloc (.cells #[.string x, .string y, .string z] 35) := ⟨_, rfl⟩
  have hB : Below w.heap.size w W := by rw [hW]; exact ((Below.refl _ _).alloc (Nat.le_refl _) _).alloc (by simp) _
  have b5' : BoxN W (w.heap.size + 1) 35 [.string x, .string y, .string z] := by rw [hW]; exact BoxN.new _ _ _ _ (by simp)
  rw [← hW]
  clear hW
  refine (known_any W (hg.below hB)).mono ?_
  rintro e w1 ⟨_, rfl, rfl, hb1⟩
  have hB1 := hB.trans (hb1.mono hB.size)
  have b51 := b5'.below hb1 b5'.lt
  have c0 := b51.cell 0 rfl
  have c1 := b51.cell 1 rfl
  have c2 := b51.cell 2 rfl
  clear hb1 hB b5'
  go_wp2_with fail
  all_goals
    refine (known_any w1 (hg.below hB1)).mono ?_
    rintro e w2 ⟨_, rfl, rfl, hb2⟩
    go_wp2_with fail
    go_ret
    exact ⟨_, rfl, rfl, hB1.trans (hb2.mono hB1.size)⟩



set_option maxHeartbeats 8000000 in
set_option maxRecDepth 100000 in
theorem planes_range0 (w : World) (kz s0 s1 : Int) (half : Bool) (a0 a1 a2 a3 a4 a5 : Int) (ah : Bool) (b0 b1 b2 b3 b4 b5 : Int) (bh even : Bool) (add tz : Int) (x y z : ByteArray) (P : List PtQ) (T : List Tri) (L U : List Rat) (hx : x.size ≤ 20) (hy : y.size ≤ 20) (hz : z.size ≤ 20) (hr : tz < 0 ∨ (T.length : Int) ≤ tz)
    (HMK : Hid (∀ w, Good w → Calls Tryz.prog 11 #[.agg #[.int .u8 kz, .int .i8 s0, .int .i8 s1, .bool half, .int .i8 a0, .int .i8 a1, .int .i8 a2, .int .i8 a3, .int .i8 a4, .int .i8 a5, .bool ah, .int .i8 b0, .int .i8 b1, .int .i8 b2, .int .i8 b3, .int .i8 b4, .int .i8 b5, .bool bh, .bool even, .int .i8 add]] w (Ret (fun r w' => ∃ vp vt vl vu, r = .agg #[vp, vt, vl, vu] ∧ PairIn w' vp vt vl vu P T 2 L U) w)))
    (HPA : Hid (∀ (w : World) (vp vt vl vu : Value), PairIn w vp vt vl vu P T 2 L U → Good w → Calls Tryz.prog 12 #[.agg #[vp, vt, vl, vu], .int .i64 tz] w (Ret (fun r _ => r = .tuple #[.bool false, .int .i64 3]) w)))
    (HSQ : Hid (∀ (w : World) (vp vt vl vu : Value), PairIn w vp vt vl vu P T 2 L U → Good w → Calls Tryz.prog 13 #[.agg #[vp, vt, vl, vu], .int .i64 tz] w (Ret (fun r _ => r = .tuple #[.string ⟨#[]⟩, .int .i64 3]) w)))
    (HTW : Hid (∀ (w : World) (vp vt vl vu : Value), PairIn w vp vt vl vu P T 2 L U → Good w → Calls Tryz.prog 14 #[.agg #[vp, vt, vl, vu], .int .i64 tz, .agg #[.string x, .string y, .string z]] w (Ret (fun r _ => r = .tuple #[.string ⟨#[]⟩, .int .i64 3]) w)))
    (HV : Hid (∀ w, Good w → Calls Tryz.prog 15 #[.agg #[.string x, .string y, .string z]] w (Ret (fun r _ => r = .int .i64 0) w))) (hg : Good w) :
    Calls Tryz.prog 3 #[.agg #[.int .u8 kz, .int .i8 s0, .int .i8 s1, .bool half, .int .i8 a0, .int .i8 a1, .int .i8 a2, .int .i8 a3, .int .i8 a4, .int .i8 a5, .bool ah, .int .i8 b0, .int .i8 b1, .int .i8 b2, .int .i8 b3, .int .i8 b4, .int .i8 b5, .bool bh, .bool even, .int .i8 add], .int .i64 tz, .agg #[.string x, .string y, .string z]] w (Ret (fun r _ => r = .bool true) w) := by
  have HR := Lib.hid hr
  clear hr
  go_enter Tryz.func3, Tryz.ntmps3
  go_upto_region 1 with fail
  obtain ⟨W, hW⟩ : ∃ W, W = (w.alloc (.cells #[.int .u8 kz, .int .i8 s0, .int .i8 s1, .bool half, .int .i8 a0, .int .i8 a1, .int .i8 a2, .int .i8 a3, .int .i8 a4, .int .i8 a5, .bool ah, .int .i8 b0, .int .i8 b1, .int .i8 b2, .int .i8 b3, .int .i8 b4, .int .i8 b5, .bool bh, .bool even, .int .i8 add] 32)).alloc (.cells #[.string x, .string y, .string z] 35) := ⟨_, rfl⟩
  have hB : Below w.heap.size w W := by rw [hW]; exact ((Below.refl _ _).alloc (Nat.le_refl _) _).alloc (by simp) _
  have v5 : BoxN W (w.heap.size + 1) 35 [.string x, .string y, .string z] := by rw [hW]; exact BoxN.new _ _ _ _ (by simp)
  have v3 : BoxN W w.heap.size 32 [.int .u8 kz, .int .i8 s0, .int .i8 s1, .bool half, .int .i8 a0, .int .i8 a1, .int .i8 a2, .int .i8 a3, .int .i8 a4, .int .i8 a5, .bool ah, .int .i8 b0, .int .i8 b1, .int .i8 b2, .int .i8 b3, .int .i8 b4, .int .i8 b5, .bool bh, .bool even, .int .i8 add] := by
    rw [hW]
    have h1 := (BoxN.new w #[.int .u8 kz, .int .i8 s0, .int .i8 s1, .bool half, .int .i8 a0, .int .i8 a1, .int .i8 a2, .int .i8 a3, .int .i8 a4, .int .i8 a5, .bool ah, .int .i8 b0, .int .i8 b1, .int .i8 b2, .int .i8 b3, .int .i8 b4, .int .i8 b5, .bool bh, .bool even, .int .i8 add] 32 _ rfl)
    exact h1.below ((Below.refl _ _).alloc (Nat.le_refl _) _) h1.lt
  rw [← hW]
  clear hW
  go_cut [37] (fun s37 wx => s37 = .bool false ∧ Below W.heap.size W wx)
  case first =>
    go_wp2_with fail
    refine (known_any W (hg.below hB)).mono ?_
    rintro e w1 ⟨_, rfl, rfl, hb1⟩
    have v51 := v5.below hb1 v5.lt
    have c0 := v51.cell 0 rfl
    have c1 := v51.cell 1 rfl
    have c2 := v51.cell 2 rfl
    have hx' : (x.size : Int) ≤ 20 := by omega
    have hy' : (y.size : Int) ≤ 20 := by omega
    have hz' : (z.size : Int) ≤ 20 := by omega
    go_wp2_with fail
    all_goals
      go_meet
      exact ⟨congrArg Value.bool (decide_eq_false (by omega)), hb1⟩
  case rest =>
  obtain ⟨rfl, hb1⟩ := hcut
  obtain ⟨w1, hw1⟩ : ∃ w1, w1 = wc := ⟨_, rfl⟩
  rw [← hw1] at hb1 ⊢
  clear hw1
  have hB1 := hB.trans (hb1.mono hB.size)
  have v51 := v5.below hb1 v5.lt
  have v31 := v3.below hb1 v3.lt
  have hrange : w1.rangeAt w.heap.size 0 [.int .u8 kz, .int .i8 s0, .int .i8 s1, .bool half, .int .i8 a0, .int .i8 a1, .int .i8 a2, .int .i8 a3, .int .i8 a4, .int .i8 a5, .bool ah, .int .i8 b0, .int .i8 b1, .int .i8 b2, .int .i8 b3, .int .i8 b4, .int .i8 b5, .bool bh, .bool even, .int .i8 add] := fun j v hv => by rw [Nat.zero_add]; exact v31.cell j hv
  clear hb1 hB v5 v3
  go_upto_region 3 with fail
  go_wp2_with (refine wpList_load_mid (by rfl) 32 (.tmp 3) (by rfl) w.heap.size 0 (by rfl) [.int .u8 kz, .int .i8 s0, .int .i8 s1, .bool half, .int .i8 a0, .int .i8 a1, .int .i8 a2, .int .i8 a3, .int .i8 a4, .int .i8 a5, .bool ah, .int .i8 b0, .int .i8 b1, .int .i8 b2, .int .i8 b3, .int .i8 b4, .int .i8 b5, .bool bh, .bool even, .int .i8 add] _ hrange Tryz.underlying32 (by rfl) (by kernel_rfl) ?_)
  refine (HMK.out w1 (hg.below hB1)).mono ?_
  rintro e w2 ⟨_, rfl, ⟨vp, vt, vl, vu, rfl, hPI⟩, hb2⟩
  obtain ⟨pp, cp, pt, ct, pl, cl, pu, cu, rfl, rfl, rfl, rfl⟩ := hPI.open
  have hB2 := hB1.trans (hb2.mono hB1.size)
  have v52 := v51.below hb2 v51.lt
  clear hrange v31 hb2 hB1 v51
  go_upto_region 4 with fail
  obtain ⟨W3, hW3⟩ : ∃ W, W = w2.alloc (.cells #[.slice pp P.length cp, .slice pt T.length ct, .slice pl L.length cl, .slice pu U.length cu] 44) := ⟨_, rfl⟩
  have hb3 : Below w2.heap.size w2 W3 := by rw [hW3]; exact (Below.refl _ _).alloc (Nat.le_refl _) _
  have v7 : BoxN W3 w2.heap.size 44 [.slice pp P.length cp, .slice pt T.length ct, .slice pl L.length cl, .slice pu U.length cu] := by rw [hW3]; exact BoxN.new _ _ _ _ rfl
  rw [← hW3]
  clear hW3
  have hB3 := hB2.trans (hb3.mono hB2.size)
  have v53 := v52.below hb3 v52.lt
  have HP3 := Lib.hid (hPI.below hb3)
  have d0 := v7.cell 0 rfl
  have d1 := v7.cell 1 rfl
  have d2 := v7.cell 2 rfl
  have d3 := v7.cell 3 rfl
  clear hPI hb3 hB2 v52
  go_wp2_with fail
  refine (HPA.out W3 _ _ _ _ HP3.out (hg.below hB3)).mono ?_
  rintro e w4 ⟨_, rfl, rfl, hb4⟩
  have hB4 := hB3.trans (hb4.mono hB3.size)
  have v54 := v53.below hb4 v53.lt
  have v74 := v7.below hb4 v7.lt
  have HP4 := Lib.hid (HP3.out.below hb4)
  clear d0 d1 d2 d3 hb4 hB3 v53 v7 HP3
  have d0 := v74.cell 0 rfl
  have d1 := v74.cell 1 rfl
  have d2 := v74.cell 2 rfl
  have d3 := v74.cell 3 rfl
  go_wp2_with fail
  refine (HSQ.out w4 _ _ _ _ HP4.out (hg.below hB4)).mono ?_
  rintro e w5 ⟨_, rfl, rfl, hb5⟩
  have hB5 := hB4.trans (hb5.mono hB4.size)
  have v55 := v54.below hb5 v54.lt
  have v75 := v74.below hb5 v74.lt
  have HP5 := Lib.hid (HP4.out.below hb5)
  clear d0 d1 d2 d3 hb5 hB4 v54 v74 HP4
  have d0 := v75.cell 0 rfl
  have d1 := v75.cell 1 rfl
  have d2 := v75.cell 2 rfl
  have d3 := v75.cell 3 rfl
  have c0 := v55.cell 0 rfl
  have c1 := v55.cell 1 rfl
  have c2 := v55.cell 2 rfl
  go_wp2_with fail
  refine (HTW.out w5 _ _ _ _ HP5.out (hg.below hB5)).mono ?_
  rintro e w6 ⟨_, rfl, rfl, hb6⟩
  have hB6 := hB5.trans (hb6.mono hB5.size)
  have v56 := v55.below hb6 v55.lt
  have v76 := v75.below hb6 v75.lt
  have HP6 := Lib.hid (HP5.out.below hb6)
  clear d0 d1 d2 d3 c0 c1 c2 hb6 hB5 v55 v75 HP5
  have c0 := v56.cell 0 rfl
  have c1 := v56.cell 1 rfl
  have c2 := v56.cell 2 rfl
  go_wp2_with fail
  refine (HV.out w6 (hg.below hB6)).mono ?_
  rintro e w7 ⟨_, rfl, rfl, hb7⟩
  have hB7 := hB6.trans (hb7.mono hB6.size)
  have v57 := v56.below hb7 v56.lt
  have v77 := v76.below hb7 v76.lt
  have HP7 := Lib.hid (HP6.out.below hb7)
  clear c0 c1 c2 hb7 hB6 v56 v76 HP6
  have d0 := v77.cell 0 rfl
  have d1 := v77.cell 1 rfl
  have d2 := v77.cell 2 rfl
  have d3 := v77.cell 3 rfl
  rcases HR.out with hr | hr
  · go_wp2_with fail
    go_ret
    exact ⟨_, rfl, rfl, hB7⟩
  · go_wp2_with fail
    all_goals
      go_ret
      exact ⟨_, rfl, rfl, hB7⟩

set_option maxHeartbeats 8000000 in
set_option maxRecDepth 100000 in
theorem planes_range2 (w : World) (kz s0 s1 : Int) (half : Bool) (a0 a1 a2 a3 a4 a5 : Int) (ah : Bool) (b0 b1 b2 b3 b4 b5 : Int) (bh even : Bool) (add tz : Int) (x y z : ByteArray) (P : List PtQ) (T : List Tri) (L U : List Rat) (hx : x.size ≤ 20) (hy : y.size ≤ 20) (hz : z.size ≤ 20) (hr : tz < 0 ∨ (T.length : Int) ≤ tz)
    (HMK : Hid (∀ w, Good w → Calls Tryz.prog 11 #[.agg #[.int .u8 kz, .int .i8 s0, .int .i8 s1, .bool half, .int .i8 a0, .int .i8 a1, .int .i8 a2, .int .i8 a3, .int .i8 a4, .int .i8 a5, .bool ah, .int .i8 b0, .int .i8 b1, .int .i8 b2, .int .i8 b3, .int .i8 b4, .int .i8 b5, .bool bh, .bool even, .int .i8 add]] w (Ret (fun r w' => ∃ vp vt vl vu, r = .agg #[vp, vt, vl, vu] ∧ PairIn w' vp vt vl vu P T 2 L U) w)))
    (HPA : Hid (∀ (w : World) (vp vt vl vu : Value), PairIn w vp vt vl vu P T 2 L U → Good w → Calls Tryz.prog 12 #[.agg #[vp, vt, vl, vu], .int .i64 tz] w (Ret (fun r _ => r = .tuple #[.bool false, .int .i64 3]) w)))
    (HSQ : Hid (∀ (w : World) (vp vt vl vu : Value), PairIn w vp vt vl vu P T 2 L U → Good w → Calls Tryz.prog 13 #[.agg #[vp, vt, vl, vu], .int .i64 tz] w (Ret (fun r _ => r = .tuple #[.string ⟨#[]⟩, .int .i64 3]) w)))
    (HTW : Hid (∀ (w : World) (vp vt vl vu : Value), PairIn w vp vt vl vu P T 2 L U → Good w → Calls Tryz.prog 14 #[.agg #[vp, vt, vl, vu], .int .i64 tz, .agg #[.string x, .string y, .string z]] w (Ret (fun r _ => r = .tuple #[.string ⟨#[]⟩, .int .i64 2]) w)))
    (HV : Hid (∀ w, Good w → Calls Tryz.prog 15 #[.agg #[.string x, .string y, .string z]] w (Ret (fun r _ => r = .int .i64 2) w))) (hg : Good w) :
    Calls Tryz.prog 3 #[.agg #[.int .u8 kz, .int .i8 s0, .int .i8 s1, .bool half, .int .i8 a0, .int .i8 a1, .int .i8 a2, .int .i8 a3, .int .i8 a4, .int .i8 a5, .bool ah, .int .i8 b0, .int .i8 b1, .int .i8 b2, .int .i8 b3, .int .i8 b4, .int .i8 b5, .bool bh, .bool even, .int .i8 add], .int .i64 tz, .agg #[.string x, .string y, .string z]] w (Ret (fun r _ => r = .bool true) w) := by
  have HR := Lib.hid hr
  clear hr
  go_enter Tryz.func3, Tryz.ntmps3
  go_upto_region 1 with fail
  obtain ⟨W, hW⟩ : ∃ W, W = (w.alloc (.cells #[.int .u8 kz, .int .i8 s0, .int .i8 s1, .bool half, .int .i8 a0, .int .i8 a1, .int .i8 a2, .int .i8 a3, .int .i8 a4, .int .i8 a5, .bool ah, .int .i8 b0, .int .i8 b1, .int .i8 b2, .int .i8 b3, .int .i8 b4, .int .i8 b5, .bool bh, .bool even, .int .i8 add] 32)).alloc (.cells #[.string x, .string y, .string z] 35) := ⟨_, rfl⟩
  have hB : Below w.heap.size w W := by rw [hW]; exact ((Below.refl _ _).alloc (Nat.le_refl _) _).alloc (by simp) _
  have v5 : BoxN W (w.heap.size + 1) 35 [.string x, .string y, .string z] := by rw [hW]; exact BoxN.new _ _ _ _ (by simp)
  have v3 : BoxN W w.heap.size 32 [.int .u8 kz, .int .i8 s0, .int .i8 s1, .bool half, .int .i8 a0, .int .i8 a1, .int .i8 a2, .int .i8 a3, .int .i8 a4, .int .i8 a5, .bool ah, .int .i8 b0, .int .i8 b1, .int .i8 b2, .int .i8 b3, .int .i8 b4, .int .i8 b5, .bool bh, .bool even, .int .i8 add] := by
    rw [hW]
    have h1 := (BoxN.new w #[.int .u8 kz, .int .i8 s0, .int .i8 s1, .bool half, .int .i8 a0, .int .i8 a1, .int .i8 a2, .int .i8 a3, .int .i8 a4, .int .i8 a5, .bool ah, .int .i8 b0, .int .i8 b1, .int .i8 b2, .int .i8 b3, .int .i8 b4, .int .i8 b5, .bool bh, .bool even, .int .i8 add] 32 _ rfl)
    exact h1.below ((Below.refl _ _).alloc (Nat.le_refl _) _) h1.lt
  rw [← hW]
  clear hW
  go_cut [37] (fun s37 wx => s37 = .bool false ∧ Below W.heap.size W wx)
  case first =>
    go_wp2_with fail
    refine (known_any W (hg.below hB)).mono ?_
    rintro e w1 ⟨_, rfl, rfl, hb1⟩
    have v51 := v5.below hb1 v5.lt
    have c0 := v51.cell 0 rfl
    have c1 := v51.cell 1 rfl
    have c2 := v51.cell 2 rfl
    have hx' : (x.size : Int) ≤ 20 := by omega
    have hy' : (y.size : Int) ≤ 20 := by omega
    have hz' : (z.size : Int) ≤ 20 := by omega
    go_wp2_with fail
    all_goals
      go_meet
      exact ⟨congrArg Value.bool (decide_eq_false (by omega)), hb1⟩
  case rest =>
  obtain ⟨rfl, hb1⟩ := hcut
  obtain ⟨w1, hw1⟩ : ∃ w1, w1 = wc := ⟨_, rfl⟩
  rw [← hw1] at hb1 ⊢
  clear hw1
  have hB1 := hB.trans (hb1.mono hB.size)
  have v51 := v5.below hb1 v5.lt
  have v31 := v3.below hb1 v3.lt
  have hrange : w1.rangeAt w.heap.size 0 [.int .u8 kz, .int .i8 s0, .int .i8 s1, .bool half, .int .i8 a0, .int .i8 a1, .int .i8 a2, .int .i8 a3, .int .i8 a4, .int .i8 a5, .bool ah, .int .i8 b0, .int .i8 b1, .int .i8 b2, .int .i8 b3, .int .i8 b4, .int .i8 b5, .bool bh, .bool even, .int .i8 add] := fun j v hv => by rw [Nat.zero_add]; exact v31.cell j hv
  clear hb1 hB v5 v3
  go_upto_region 3 with fail
  go_wp2_with (refine wpList_load_mid (by rfl) 32 (.tmp 3) (by rfl) w.heap.size 0 (by rfl) [.int .u8 kz, .int .i8 s0, .int .i8 s1, .bool half, .int .i8 a0, .int .i8 a1, .int .i8 a2, .int .i8 a3, .int .i8 a4, .int .i8 a5, .bool ah, .int .i8 b0, .int .i8 b1, .int .i8 b2, .int .i8 b3, .int .i8 b4, .int .i8 b5, .bool bh, .bool even, .int .i8 add] _ hrange Tryz.underlying32 (by rfl) (by kernel_rfl) ?_)
  refine (HMK.out w1 (hg.below hB1)).mono ?_
  rintro e w2 ⟨_, rfl, ⟨vp, vt, vl, vu, rfl, hPI⟩, hb2⟩
  obtain ⟨pp, cp, pt, ct, pl, cl, pu, cu, rfl, rfl, rfl, rfl⟩ := hPI.open
  have hB2 := hB1.trans (hb2.mono hB1.size)
  have v52 := v51.below hb2 v51.lt
  clear hrange v31 hb2 hB1 v51
  go_upto_region 4 with fail
  obtain ⟨W3, hW3⟩ : ∃ W, W = w2.alloc (.cells #[.slice pp P.length cp, .slice pt T.length ct, .slice pl L.length cl, .slice pu U.length cu] 44) := ⟨_, rfl⟩
  have hb3 : Below w2.heap.size w2 W3 := by rw [hW3]; exact (Below.refl _ _).alloc (Nat.le_refl _) _
  have v7 : BoxN W3 w2.heap.size 44 [.slice pp P.length cp, .slice pt T.length ct, .slice pl L.length cl, .slice pu U.length cu] := by rw [hW3]; exact BoxN.new _ _ _ _ rfl
  rw [← hW3]
  clear hW3
  have hB3 := hB2.trans (hb3.mono hB2.size)
  have v53 := v52.below hb3 v52.lt
  have HP3 := Lib.hid (hPI.below hb3)
  have d0 := v7.cell 0 rfl
  have d1 := v7.cell 1 rfl
  have d2 := v7.cell 2 rfl
  have d3 := v7.cell 3 rfl
  clear hPI hb3 hB2 v52
  go_wp2_with fail
  refine (HPA.out W3 _ _ _ _ HP3.out (hg.below hB3)).mono ?_
  rintro e w4 ⟨_, rfl, rfl, hb4⟩
  have hB4 := hB3.trans (hb4.mono hB3.size)
  have v54 := v53.below hb4 v53.lt
  have v74 := v7.below hb4 v7.lt
  have HP4 := Lib.hid (HP3.out.below hb4)
  clear d0 d1 d2 d3 hb4 hB3 v53 v7 HP3
  have d0 := v74.cell 0 rfl
  have d1 := v74.cell 1 rfl
  have d2 := v74.cell 2 rfl
  have d3 := v74.cell 3 rfl
  go_wp2_with fail
  refine (HSQ.out w4 _ _ _ _ HP4.out (hg.below hB4)).mono ?_
  rintro e w5 ⟨_, rfl, rfl, hb5⟩
  have hB5 := hB4.trans (hb5.mono hB4.size)
  have v55 := v54.below hb5 v54.lt
  have v75 := v74.below hb5 v74.lt
  have HP5 := Lib.hid (HP4.out.below hb5)
  clear d0 d1 d2 d3 hb5 hB4 v54 v74 HP4
  have d0 := v75.cell 0 rfl
  have d1 := v75.cell 1 rfl
  have d2 := v75.cell 2 rfl
  have d3 := v75.cell 3 rfl
  have c0 := v55.cell 0 rfl
  have c1 := v55.cell 1 rfl
  have c2 := v55.cell 2 rfl
  go_wp2_with fail
  refine (HTW.out w5 _ _ _ _ HP5.out (hg.below hB5)).mono ?_
  rintro e w6 ⟨_, rfl, rfl, hb6⟩
  have hB6 := hB5.trans (hb6.mono hB5.size)
  have v56 := v55.below hb6 v55.lt
  have v76 := v75.below hb6 v75.lt
  have HP6 := Lib.hid (HP5.out.below hb6)
  clear d0 d1 d2 d3 c0 c1 c2 hb6 hB5 v55 v75 HP5
  have c0 := v56.cell 0 rfl
  have c1 := v56.cell 1 rfl
  have c2 := v56.cell 2 rfl
  go_wp2_with fail
  refine (HV.out w6 (hg.below hB6)).mono ?_
  rintro e w7 ⟨_, rfl, rfl, hb7⟩
  have hB7 := hB6.trans (hb7.mono hB6.size)
  have v57 := v56.below hb7 v56.lt
  have v77 := v76.below hb7 v76.lt
  have HP7 := Lib.hid (HP6.out.below hb7)
  clear c0 c1 c2 hb7 hB6 v56 v76 HP6
  have d0 := v77.cell 0 rfl
  have d1 := v77.cell 1 rfl
  have d2 := v77.cell 2 rfl
  have d3 := v77.cell 3 rfl
  rcases HR.out with hr | hr
  · go_wp2_with fail
    go_ret
    exact ⟨_, rfl, rfl, hB7⟩
  · go_wp2_with fail
    all_goals
      go_ret
      exact ⟨_, rfl, rfl, hB7⟩

end Go.Proofs.YtjfjkiibmfgplaaGreatDoor
