/- The walk over klippelaw38.ThicknessIsopachs. -/
import Derived.Test.YtjfjkiibmfgplaaGreatDoorE7
import Derived.Test.YtjfjkiibmfgplaaGreatDoorZ3
import Derived.Test.YtjfjkiibmfgplaaGreatDoorW6
import Derived.Deep.MidRow
import Derived.Deep.DeepCutAuto
namespace Go.Proofs.YtjfjkiibmfgplaaGreatDoor
open Go.RowKit Go.Lib

set_option maxHeartbeats 4000000 in
set_option maxRecDepth 100000 in
/-- A text that is too long: the examples alone. -/
theorem isopachs_long (w : World) (kz s0 s1 : Int) (half : Bool) (a0 a1 a2 a3 a4 a5 : Int) (ah : Bool) (b0 b1 b2 b3 b4 b5 : Int) (bh even : Bool) (add : Int) (s : ByteArray) (hs : 20 < s.size) (hg : Good w) :
    Calls Tryz.prog 5 #[.agg #[.int .u8 kz, .int .i8 s0, .int .i8 s1, .bool half, .int .i8 a0, .int .i8 a1, .int .i8 a2, .int .i8 a3, .int .i8 a4, .int .i8 a5, .bool ah, .int .i8 b0, .int .i8 b1, .int .i8 b2, .int .i8 b3, .int .i8 b4, .int .i8 b5, .bool bh, .bool even, .int .i8 add], .string s] w (Ret (fun r _ => r = .bool true) w) := by
  have hx : (20 : Int) < (s.size : Int) := by omega
  go_enter Tryz.func5, Tryz.ntmps5
  go_wp2_with fail
  obtain ⟨W, hW⟩ : ∃ W, W = w.alloc (.cells #[.int .u8 kz, .int .i8 s0, .int .i8 s1, .bool half, .int .i8 a0, .int .i8 a1, .int .i8 a2, .int .i8 a3, .int .i8 a4, .int .i8 a5, .bool ah, .int .i8 b0, .int .i8 b1, .int .i8 b2, .int .i8 b3, .int .i8 b4, .int .i8 b5, .bool bh, .bool even, .int .i8 add] 32) := ⟨_, rfl⟩
  have hB : Below w.heap.size w W := by rw [hW]; exact (Below.refl _ _).alloc (Nat.le_refl _) _
  rw [← hW]
  clear hW
  refine (known_any W (hg.below hB)).mono ?_
  rintro e w1 ⟨_, rfl, rfl, hb1⟩
  have hB1 := hB.trans (hb1.mono hB.size)
  clear hb1 hB
  go_wp2_with fail
  refine (known_any w1 (hg.below hB1)).mono ?_
  rintro e w2 ⟨_, rfl, rfl, hb2⟩
  go_wp2_with fail
  go_ret
  exact ⟨_, rfl, rfl, hB1.trans (hb2.mono hB1.size)⟩

set_option maxHeartbeats 4000000 in
set_option maxRecDepth 100000 in
/-- A text that is no number. -/
theorem isopachs_bad (w : World) (kz s0 s1 : Int) (half : Bool) (a0 a1 a2 a3 a4 a5 : Int) (ah : Bool) (b0 b1 b2 b3 b4 b5 : Int) (bh even : Bool) (add : Int) (s : ByteArray) (P : List PtQ) (T : List Tri) (L U : List Rat) (hs : s.size ≤ 20)
    (HMK : Hid (∀ w, Good w → Calls Tryz.prog 11 #[.agg #[.int .u8 kz, .int .i8 s0, .int .i8 s1, .bool half, .int .i8 a0, .int .i8 a1, .int .i8 a2, .int .i8 a3, .int .i8 a4, .int .i8 a5, .bool ah, .int .i8 b0, .int .i8 b1, .int .i8 b2, .int .i8 b3, .int .i8 b4, .int .i8 b5, .bool bh, .bool even, .int .i8 add]] w (Ret (fun r w' => ∃ vp vt vl vu, r = .agg #[vp, vt, vl, vu] ∧ PairIn w' vp vt vl vu P T 2 L U) w)))
    (HIS : Hid (∀ (w : World) (vp vt vl vu : Value), PairIn w vp vt vl vu P T 2 L U → Good w → Calls Tryz.prog 25 #[.agg #[vp, vt, vl, vu], .string s] w (Ret (fun r _ => r = .tuple #[.slice none 0 0, .int .i64 2]) w)))
    (HRI : Hid (∀ w, Good w → Calls Tryz.prog 26 #[.string s] w (Ret (fun r _ => r = .bool false) w))) (hg : Good w) :
    Calls Tryz.prog 5 #[.agg #[.int .u8 kz, .int .i8 s0, .int .i8 s1, .bool half, .int .i8 a0, .int .i8 a1, .int .i8 a2, .int .i8 a3, .int .i8 a4, .int .i8 a5, .bool ah, .int .i8 b0, .int .i8 b1, .int .i8 b2, .int .i8 b3, .int .i8 b4, .int .i8 b5, .bool bh, .bool even, .int .i8 add], .string s] w (Ret (fun r _ => r = .bool true) w) := by
  have hs' : (s.size : Int) ≤ 20 := by omega
  go_enter Tryz.func5, Tryz.ntmps5
  go_wp2_with fail
  obtain ⟨W, hW⟩ : ∃ W, W = w.alloc (.cells #[.int .u8 kz, .int .i8 s0, .int .i8 s1, .bool half, .int .i8 a0, .int .i8 a1, .int .i8 a2, .int .i8 a3, .int .i8 a4, .int .i8 a5, .bool ah, .int .i8 b0, .int .i8 b1, .int .i8 b2, .int .i8 b3, .int .i8 b4, .int .i8 b5, .bool bh, .bool even, .int .i8 add] 32) := ⟨_, rfl⟩
  have hB : Below w.heap.size w W := by rw [hW]; exact (Below.refl _ _).alloc (Nat.le_refl _) _
  have v2 : BoxN W w.heap.size 32 [.int .u8 kz, .int .i8 s0, .int .i8 s1, .bool half, .int .i8 a0, .int .i8 a1, .int .i8 a2, .int .i8 a3, .int .i8 a4, .int .i8 a5, .bool ah, .int .i8 b0, .int .i8 b1, .int .i8 b2, .int .i8 b3, .int .i8 b4, .int .i8 b5, .bool bh, .bool even, .int .i8 add] := by rw [hW]; exact BoxN.new _ _ _ _ rfl
  rw [← hW]
  clear hW
  refine (known_any W (hg.below hB)).mono ?_
  rintro e w1 ⟨_, rfl, rfl, hb1⟩
  have hB1 := hB.trans (hb1.mono hB.size)
  have v21 := v2.below hb1 v2.lt
  have hrange : w1.rangeAt w.heap.size 0 [.int .u8 kz, .int .i8 s0, .int .i8 s1, .bool half, .int .i8 a0, .int .i8 a1, .int .i8 a2, .int .i8 a3, .int .i8 a4, .int .i8 a5, .bool ah, .int .i8 b0, .int .i8 b1, .int .i8 b2, .int .i8 b3, .int .i8 b4, .int .i8 b5, .bool bh, .bool even, .int .i8 add] := fun j v hv => by rw [Nat.zero_add]; exact v21.cell j hv
  clear hb1 hB v2
  go_upto_region 3 with fail
  go_wp2_with (refine wpList_load_mid (by rfl) 32 (.tmp 2) (by rfl) w.heap.size 0 (by rfl) [.int .u8 kz, .int .i8 s0, .int .i8 s1, .bool half, .int .i8 a0, .int .i8 a1, .int .i8 a2, .int .i8 a3, .int .i8 a4, .int .i8 a5, .bool ah, .int .i8 b0, .int .i8 b1, .int .i8 b2, .int .i8 b3, .int .i8 b4, .int .i8 b5, .bool bh, .bool even, .int .i8 add] _ hrange Tryz.underlying32 (by rfl) (by kernel_rfl) ?_)
  refine (HMK.out w1 (hg.below hB1)).mono ?_
  rintro e w2 ⟨_, rfl, ⟨vp, vt, vl, vu, rfl, hPI⟩, hb2⟩
  obtain ⟨pp, cp, pt, ct, pl, cl, pu, cu, rfl, rfl, rfl, rfl⟩ := hPI.open
  have hB2 := hB1.trans (hb2.mono hB1.size)
  clear hrange v21 hb2 hB1
  go_upto_region 4 with fail
  obtain ⟨W3, hW3⟩ : ∃ W, W = w2.alloc (.cells #[.slice pp P.length cp, .slice pt T.length ct, .slice pl L.length cl, .slice pu U.length cu] 44) := ⟨_, rfl⟩
  have hb3 : Below w2.heap.size w2 W3 := by rw [hW3]; exact (Below.refl _ _).alloc (Nat.le_refl _) _
  have v5 : BoxN W3 w2.heap.size 44 [.slice pp P.length cp, .slice pt T.length ct, .slice pl L.length cl, .slice pu U.length cu] := by rw [hW3]; exact BoxN.new _ _ _ _ rfl
  rw [← hW3]
  clear hW3
  have hB3 := hB2.trans (hb3.mono hB2.size)
  have HP3 := Lib.hid (hPI.below hb3)
  have d0 := v5.cell 0 rfl
  have d1 := v5.cell 1 rfl
  have d2 := v5.cell 2 rfl
  have d3 := v5.cell 3 rfl
  clear hPI hb3 hB2
  go_wp2_with fail
  refine (HIS.out W3 _ _ _ _ HP3.out (hg.below hB3)).mono ?_
  rintro e w4 ⟨_, rfl, rfl, hb4⟩
  have hB4 := hB3.trans (hb4.mono hB3.size)
  clear d0 d1 d2 d3 hb4 hB3 v5 HP3
  go_wp2_with fail
  refine (HRI.out w4 (hg.below hB4)).mono ?_
  rintro e w5 ⟨_, rfl, rfl, hb5⟩
  have hB5 := hB4.trans (hb5.mono hB4.size)
  go_wp2_with fail
  go_ret
  exact ⟨_, rfl, rfl, hB5⟩

set_option maxHeartbeats 4000000 in
set_option maxRecDepth 100000 in
theorem isopachs_ok (w : World) (kz s0 s1 : Int) (half : Bool) (a0 a1 a2 a3 a4 a5 : Int) (ah : Bool) (b0 b1 b2 b3 b4 b5 : Int) (bh even : Bool) (add : Int) (s : ByteArray) (P : List PtQ) (T : List Tri) (L U D : List Rat) (LV : List Seg) (hlv : LV.length ≤ 1000000) (hs : s.size ≤ 20)
    (HMK : Hid (∀ w, Good w → Calls Tryz.prog 11 #[.agg #[.int .u8 kz, .int .i8 s0, .int .i8 s1, .bool half, .int .i8 a0, .int .i8 a1, .int .i8 a2, .int .i8 a3, .int .i8 a4, .int .i8 a5, .bool ah, .int .i8 b0, .int .i8 b1, .int .i8 b2, .int .i8 b3, .int .i8 b4, .int .i8 b5, .bool bh, .bool even, .int .i8 add]] w (Ret (fun r w' => ∃ vp vt vl vu, r = .agg #[vp, vt, vl, vu] ∧ PairIn w' vp vt vl vu P T 2 L U) w)))
    (HIS : Hid (∀ (w : World) (vp vt vl vu : Value), PairIn w vp vt vl vu P T 2 L U → Good w → Calls Tryz.prog 25 #[.agg #[vp, vt, vl, vu], .string s] w (Ret (fun r w' => ∃ v, r = .tuple #[v, .int .i64 0] ∧ SegV w' w.heap.size v LV) w)))
    (HRI : Hid (∀ w, Good w → Calls Tryz.prog 26 #[.string s] w (Ret (fun r _ => r = .bool true) w)))
    (HDI : Hid (∀ (w : World) (vp vt vl vu : Value), PairIn w vp vt vl vu P T 2 L U → Good w → Calls Tryz.prog 28 #[.agg #[vp, vt, vl, vu]] w (Ret (fun r w' => RdQ w' r D) w)))
    (HLE : Hid (∀ (w : World) (vp vt vl vu vd : Value), PairIn w vp vt vl vu P T 2 L U → RdQ w vd D → Good w → Calls Tryz.prog 27 #[.agg #[vp, vt], vd, .string s] w (Ret (fun r w' => ∃ v, r = .tuple #[v, .int .i64 0] ∧ SegV w' w.heap.size v LV) w))) (hg : Good w) :
    Calls Tryz.prog 5 #[.agg #[.int .u8 kz, .int .i8 s0, .int .i8 s1, .bool half, .int .i8 a0, .int .i8 a1, .int .i8 a2, .int .i8 a3, .int .i8 a4, .int .i8 a5, .bool ah, .int .i8 b0, .int .i8 b1, .int .i8 b2, .int .i8 b3, .int .i8 b4, .int .i8 b5, .bool bh, .bool even, .int .i8 add], .string s] w (Ret (fun r _ => r = .bool true) w) := by
  have hs' : (s.size : Int) ≤ 20 := by omega
  go_enter Tryz.func5, Tryz.ntmps5
  go_wp2_with fail
  obtain ⟨W, hW⟩ : ∃ W, W = w.alloc (.cells #[.int .u8 kz, .int .i8 s0, .int .i8 s1, .bool half, .int .i8 a0, .int .i8 a1, .int .i8 a2, .int .i8 a3, .int .i8 a4, .int .i8 a5, .bool ah, .int .i8 b0, .int .i8 b1, .int .i8 b2, .int .i8 b3, .int .i8 b4, .int .i8 b5, .bool bh, .bool even, .int .i8 add] 32) := ⟨_, rfl⟩
  have hB : Below w.heap.size w W := by rw [hW]; exact (Below.refl _ _).alloc (Nat.le_refl _) _
  have v2 : BoxN W w.heap.size 32 [.int .u8 kz, .int .i8 s0, .int .i8 s1, .bool half, .int .i8 a0, .int .i8 a1, .int .i8 a2, .int .i8 a3, .int .i8 a4, .int .i8 a5, .bool ah, .int .i8 b0, .int .i8 b1, .int .i8 b2, .int .i8 b3, .int .i8 b4, .int .i8 b5, .bool bh, .bool even, .int .i8 add] := by rw [hW]; exact BoxN.new _ _ _ _ rfl
  rw [← hW]
  clear hW
  refine (known_any W (hg.below hB)).mono ?_
  rintro e w1 ⟨_, rfl, rfl, hb1⟩
  have hB1 := hB.trans (hb1.mono hB.size)
  have v21 := v2.below hb1 v2.lt
  have hrange : w1.rangeAt w.heap.size 0 [.int .u8 kz, .int .i8 s0, .int .i8 s1, .bool half, .int .i8 a0, .int .i8 a1, .int .i8 a2, .int .i8 a3, .int .i8 a4, .int .i8 a5, .bool ah, .int .i8 b0, .int .i8 b1, .int .i8 b2, .int .i8 b3, .int .i8 b4, .int .i8 b5, .bool bh, .bool even, .int .i8 add] := fun j v hv => by rw [Nat.zero_add]; exact v21.cell j hv
  clear hb1 hB v2
  go_upto_region 3 with fail
  go_wp2_with (refine wpList_load_mid (by rfl) 32 (.tmp 2) (by rfl) w.heap.size 0 (by rfl) [.int .u8 kz, .int .i8 s0, .int .i8 s1, .bool half, .int .i8 a0, .int .i8 a1, .int .i8 a2, .int .i8 a3, .int .i8 a4, .int .i8 a5, .bool ah, .int .i8 b0, .int .i8 b1, .int .i8 b2, .int .i8 b3, .int .i8 b4, .int .i8 b5, .bool bh, .bool even, .int .i8 add] _ hrange Tryz.underlying32 (by rfl) (by kernel_rfl) ?_)
  refine (HMK.out w1 (hg.below hB1)).mono ?_
  rintro e w2 ⟨_, rfl, ⟨vp, vt, vl, vu, rfl, hPI⟩, hb2⟩
  obtain ⟨pp, cp, pt, ct, pl, cl, pu, cu, rfl, rfl, rfl, rfl⟩ := hPI.open
  have hB2 := hB1.trans (hb2.mono hB1.size)
  clear hrange v21 hb2 hB1
  go_upto_region 4 with fail
  obtain ⟨W3, hW3⟩ : ∃ W, W = w2.alloc (.cells #[.slice pp P.length cp, .slice pt T.length ct, .slice pl L.length cl, .slice pu U.length cu] 44) := ⟨_, rfl⟩
  have hb3 : Below w2.heap.size w2 W3 := by rw [hW3]; exact (Below.refl _ _).alloc (Nat.le_refl _) _
  have v5 : BoxN W3 w2.heap.size 44 [.slice pp P.length cp, .slice pt T.length ct, .slice pl L.length cl, .slice pu U.length cu] := by rw [hW3]; exact BoxN.new _ _ _ _ rfl
  rw [← hW3]
  clear hW3
  have hB3 := hB2.trans (hb3.mono hB2.size)
  have HP3 := Lib.hid (hPI.below hb3)
  have d0 := v5.cell 0 rfl
  have d1 := v5.cell 1 rfl
  have d2 := v5.cell 2 rfl
  have d3 := v5.cell 3 rfl
  clear hPI hb3 hB2
  go_wp2_with fail
  refine (HIS.out W3 _ _ _ _ HP3.out (hg.below hB3)).mono ?_
  rintro e w4 ⟨_, rfl, ⟨v6, rfl, hsv⟩, hb4⟩
  have hB4 := hB3.trans (hb4.mono hB3.size)
  have v54 := v5.below hb4 v5.lt
  have HP4 := Lib.hid (HP3.out.below hb4)
  have HS4 := Lib.hid hsv
  clear d0 d1 d2 d3 hb4 hB3 v5 HP3 hsv
  go_wp2_with fail
  refine (HRI.out w4 (hg.below hB4)).mono ?_
  rintro e w5 ⟨_, rfl, rfl, hb5⟩
  have hB5 := hB4.trans (hb5.mono hB4.size)
  have v55 := v54.below hb5 v54.lt
  have HP5 := Lib.hid (HP4.out.below hb5)
  have HS5 := Lib.hid (HS4.out.below hb5)
  clear hb5 hB4 v54 HP4 HS4
  have d0 := v55.cell 0 rfl
  have d1 := v55.cell 1 rfl
  have d2 := v55.cell 2 rfl
  have d3 := v55.cell 3 rfl
  have hl5 := v55.lt
  have hgd : Good w5.drew := (hg.below hB5).drewN 1
  have HPd := Lib.hid (HP5.out.below (below_drewN w5 1))
  go_upto_region 7 with fail
  go_region_held3 (fun w' => w'.cell? ⟨w2.heap.size, 0, none⟩ = some (.slice pp P.length cp) ∧ w'.cell? ⟨w2.heap.size, 1, none⟩ = some (.slice pt T.length ct) ∧ w'.cell? ⟨w2.heap.size, 2, none⟩ = some (.slice pl L.length cl) ∧ w'.cell? ⟨w2.heap.size, 3, none⟩ = some (.slice pu U.length cu))
    (first | exact ⟨d0, d1, d2, d3⟩ | exact ⟨p_1_0, p_1_1, p_1_2, p_1_3⟩ | exact ⟨p_2_0, p_2_1, p_2_2, p_2_3⟩)
    (first
    | (go_at_call 27; refine (HLE.out _ _ _ _ _ _ HPe.out HRD.out pg1).mono ?_; rintro e pw2 ⟨_, rfl, ⟨v8, rfl, hsv8⟩, pb2⟩
       have p_2_0 := (pb2.cell (p := ⟨w2.heap.size, 0, none⟩) (by show w2.heap.size < pw1.heap.size; omega)).trans p_1_0
       have p_2_1 := (pb2.cell (p := ⟨w2.heap.size, 1, none⟩) (by show w2.heap.size < pw1.heap.size; omega)).trans p_1_1
       have p_2_2 := (pb2.cell (p := ⟨w2.heap.size, 2, none⟩) (by show w2.heap.size < pw1.heap.size; omega)).trans p_1_2
       have p_2_3 := (pb2.cell (p := ⟨w2.heap.size, 3, none⟩) (by show w2.heap.size < pw1.heap.size; omega)).trans p_1_3
       have ps2 : pw1.heap.size ≤ pw2.heap.size := pb2.size
       have pg2 : Good pw2 := pg1.below pb2)
    | (go_at_call 28; refine (HDI.out _ _ _ _ _ HPd.out hgd).mono ?_; rintro e pw1 ⟨vd, rfl, hrd, pb1⟩
       have p_1_0 := (pb1.cell (p := ⟨w2.heap.size, 0, none⟩) (by show w2.heap.size < w5.heap.size; omega)).trans d0
       have p_1_1 := (pb1.cell (p := ⟨w2.heap.size, 1, none⟩) (by show w2.heap.size < w5.heap.size; omega)).trans d1
       have p_1_2 := (pb1.cell (p := ⟨w2.heap.size, 2, none⟩) (by show w2.heap.size < w5.heap.size; omega)).trans d2
       have p_1_3 := (pb1.cell (p := ⟨w2.heap.size, 3, none⟩) (by show w2.heap.size < w5.heap.size; omega)).trans d3
       have ps1 : w5.heap.size ≤ pw1.heap.size := pb1.size
       have pg1 : Good pw1 := hgd.below pb1
       have HPe := Lib.hid (HPd.out.below pb1)
       have HRD := Lib.hid hrd))
  have pB : Below w5.heap.size w5 pw2 := (((below_drewN w5 1).trans (pb1.mono (by show w5.heap.size ≤ w5.heap.size; omega))).trans (pb2.mono (by show w5.heap.size ≤ pw1.heap.size; omega)))
  have HS8 := Lib.hid hsv8
  have HS6 : Hid (SegV pw2 W3.heap.size v6 LV) := HS5.out.below pB
  have hB6 := hB5.trans (pB.mono hB5.size)
  clear hsv8 HS5 pB pb1 pb2 ps1 ps2 pg1 pg2 p_1_0 p_1_1 p_1_2 p_1_3 p_2_0 p_2_1 p_2_2 p_2_3 d0 d1 d2 d3 hB5 v55 hgd HPd HPe HRD hrd
  go_wp2_with fail
  refine (same38_ok _ _ _ _ LV hlv pw2 HS6.out HS8.out).mono ?_
  rintro e w7 ⟨_, rfl, rfl, hb7⟩
  have hB7 := hB6.trans (hb7.mono hB6.size)
  go_wp2_with fail
  go_ret
  exact ⟨_, rfl, rfl, hB7⟩

theorem isopachs_of (w : World) (kz s0 s1 : Int) (half : Bool) (a0 a1 a2 a3 a4 a5 : Int) (ah : Bool) (b0 b1 b2 b3 b4 b5 : Int) (bh even : Bool) (add : Int) (z : Rat) (P : List PtQ) (T : List Tri) (L U : List Rat) (hs : (RS z).size ≤ 20) (hz : Sz 20 z)
    (hM : MeshOK P T 2) (hLs : ∀ q ∈ L, Sz 2 q) (hUs : ∀ q ∈ U, Sz 2 q) (hLl : L.length = P.length) (hUl : U.length = P.length)
    (HMK : Hid (∀ w, Good w → Calls Tryz.prog 11 #[.agg #[.int .u8 kz, .int .i8 s0, .int .i8 s1, .bool half, .int .i8 a0, .int .i8 a1, .int .i8 a2, .int .i8 a3, .int .i8 a4, .int .i8 a5, .bool ah, .int .i8 b0, .int .i8 b1, .int .i8 b2, .int .i8 b3, .int .i8 b4, .int .i8 b5, .bool bh, .bool even, .int .i8 add]] w (Ret (fun r w' => ∃ vp vt vl vu, r = .agg #[vp, vt, vl, vu] ∧ PairIn w' vp vt vl vu P T 2 L U) w)))
    (HRI : Hid (∀ w, Good w → Calls Tryz.prog 26 #[.string (RS z)] w (Ret (fun r _ => r = .bool true) w))) (hg : Good w) :
    Calls Tryz.prog 5 #[.agg #[.int .u8 kz, .int .i8 s0, .int .i8 s1, .bool half, .int .i8 a0, .int .i8 a1, .int .i8 a2, .int .i8 a3, .int .i8 a4, .int .i8 a5, .bool ah, .int .i8 b0, .int .i8 b1, .int .i8 b2, .int .i8 b3, .int .i8 b4, .int .i8 b5, .bool bh, .bool even, .int .i8 add], .string (RS z)] w (Ret (fun r _ => r = .bool true) w) := by
  have hlen : L.length = U.length := by rw [hLl, hUl]
  have hDl : (difQ L U).length = P.length := by rw [difQ_length _ _ hlen, hUl]
  have hDs : ∀ q ∈ difQ L U, Sz 5 q := fun q hq => difQ_Sz hLs hUs q hq
  have hM5 : MeshOK P T 5 :=
    { kpos := by omega, klim := by omega, sz := fun p hp => ⟨(hM.sz p hp).1.mono (by omega), (hM.sz p hp).2.mono (by omega)⟩, plen := hM.plen, tlen := hM.tlen, idx := hM.idx, klim2 := by omega, some := hM.some, apart := hM.apart, turns := hM.turns, whole := hM.whole }
  exact isopachs_ok w kz s0 s1 half a0 a1 a2 a3 a4 a5 ah b0 b1 b2 b3 b4 b5 bh even add (RS z) P T L U (difQ L U) (levelL P T (difQ L U) z) (by have h1 := levTo_len P T (difQ L U) z T.length; have h2 := hM.tlen; unfold levelL; omega) hs HMK
    (Lib.hid fun w vp vt vl vu h hg => isopach_ok w vp vt vl vu P T L U h z hz hg) HRI
    (Lib.hid fun w vp vt vl vu h hg => (difference_any w vp vt vl vu 2 L U (by omega) (by omega) h.l.f h.u.f hlen (by have := hM.plen; omega) hLs hUs hg).mono fun e w' (h : Ret (fun r w' => RdQ w' r (difQ L U) ∧ FreshV w.heap.size r) w e w') => (show Ret (fun r w' => RdQ w' r (difQ L U)) w e w' from by obtain ⟨v, h1, h2, h3⟩ := h; exact ⟨v, h1, h2.1, h3⟩))
    (Lib.hid fun w vp vt vl vu vd h hd hg => level_ok w vp vt vd P T 5 (difQ L U) ⟨h.l.p, h.l.t, hM5, hd, hDs, hDl⟩ z 20 hz (by omega) hg) hg

theorem isopachs_all (w : World) (kz s0 s1 : Int) (half : Bool) (a0 a1 a2 a3 a4 a5 : Int) (ah : Bool) (b0 b1 b2 b3 b4 b5 : Int) (bh even : Bool) (add : Int) (s : ByteArray) (_hs : s.size ≤ maxLen)
    (hk0 : 0 ≤ kz) (hk1 : kz ≤ 255) (hs0 : -128 ≤ s0 ∧ s0 ≤ 127) (hs1 : -128 ≤ s1 ∧ s1 ≤ 127)
    (ha : ∀ x ∈ [a0, a1, a2, a3, a4, a5], -128 ≤ x ∧ x ≤ 127) (hb : ∀ x ∈ [b0, b1, b2, b3, b4, b5], -128 ≤ x ∧ x ≤ 127) (hadd : -128 ≤ add ∧ add ≤ 127) (hg : Good w) :
    Calls Tryz.prog 5 #[.agg #[.int .u8 kz, .int .i8 s0, .int .i8 s1, .bool half, .int .i8 a0, .int .i8 a1, .int .i8 a2, .int .i8 a3, .int .i8 a4, .int .i8 a5, .bool ah, .int .i8 b0, .int .i8 b1, .int .i8 b2, .int .i8 b3, .int .i8 b4, .int .i8 b5, .bool bh, .bool even, .int .i8 add], .string s] w (Ret (fun r _ => r = .bool true) w) := by
  by_cases hlen : 20 < s.size
  · exact isopachs_long w kz s0 s1 half a0 a1 a2 a3 a4 a5 ah b0 b1 b2 b3 b4 b5 bh even add s hlen hg
  obtain ⟨k, hk⟩ : ∃ k : Nat, kz.tmod 8 = (k : Int) := ⟨(kz.tmod 8).toNat, by have := Int.tmod_nonneg 8 hk0; omega⟩
  have hs20 : s.size ≤ 20 := by omega
  have HMK := Lib.hid fun w hg => make38_any w kz s0 s1 half a0 a1 a2 a3 a4 a5 ah b0 b1 b2 b3 b4 b5 bh even add k hk hk0 hk1 hs0 hs1 ha hb hadd hg
  have hRI := fun w hg => rightRQ_any s (by omega) w hg
  cases hr : rightQ s.data.toList with
  | false =>
    rw [hr] at hRI
    exact isopachs_bad w kz s0 s1 half a0 a1 a2 a3 a4 a5 ah b0 b1 b2 b3 b4 b5 bh even add s (sheetP k s0 s1 half) (shapeT k) (planL k [a0, a1, a2, a3, a4, a5] ah) (planU k [a0, a1, a2, a3, a4, a5] ah [b0, b1, b2, b3, b4, b5] bh even add) hs20 HMK
      (Lib.hid fun w vp vt vl vu h hg => isopach_number w vp vt vl vu _ _ 2 _ _ h s (by omega) hr hg) (Lib.hid hRI) hg
  | true =>
    rw [hr] at hRI
    obtain ⟨z, ez, hz⟩ := right20' hr hs20
    subst ez
    exact isopachs_of w kz s0 s1 half a0 a1 a2 a3 a4 a5 ah b0 b1 b2 b3 b4 b5 bh even add z (sheetP k s0 s1 half) (shapeT k) (planL k [a0, a1, a2, a3, a4, a5] ah) (planU k [a0, a1, a2, a3, a4, a5] ah [b0, b1, b2, b3, b4, b5] bh even add) hs20 hz
      (sheet_ok k s0 s1 half) (heights_Sz _ _ _) (planU_Sz _ _ _ _ _ _ _) (by rw [planL_length, sheetP_length]) (by rw [planU_length, sheetP_length]) HMK (Lib.hid hRI) hg
end Go.Proofs.YtjfjkiibmfgplaaGreatDoor
