import Derived.Test.YtdhcliekejiegaaGreatDoorF3
import Derived.Test.YtdhcliekejiegaaGreatDoorX1
import Derived.Test.YtdhcliekejiegaaGreatDoorF16a
import Derived.Test.YtdhcliekejiegaaGreatDoorF12a
set_option maxHeartbeats 4000000
set_option maxRecDepth 100000
namespace Go.Proofs.YtdhcliekejiegaaGreatDoor
open Go.RowKit Go.Lib
theorem turn05_any (a b c : PtQ) (k : Nat) (hk : 0 < k) (hk2 : k ≤ 1000) (ha : SzP k a) (hb : SzP k b) (hc : SzP k c) (w : World) (hg : Good w) :
 Calls Tryz.prog 133 #[.agg #[.string (RS a.1), .string (RS a.2)], .agg #[.string (RS b.1), .string (RS b.2)], .agg #[.string (RS c.1), .string (RS c.2)]] w (Ret (fun r _ => r = .int .i64 (turnZ a b c)) w) := by
 obtain ⟨W, hW, ⟨a0, a1⟩, ⟨b0, b1⟩, ⟨c0, c1⟩, hbW, hsz⟩ := three_boxes w a b c 59
 have hgW := hg.below hbW
 have HA := Lib.hid ha
 have HB := Lib.hid hb
 have HC := Lib.hid hc
 have HW := Lib.hid hW
 have HT : Hid ((areaQ a b c).num.sign = turnZ a b c) := rfl
 clear hW ha hb hc
 have HAR : Hid (Calls Tryz.prog 78 #[.agg #[.string (RS a.1), .string (RS a.2)], .agg #[.string (RS b.1), .string (RS b.2)], .agg #[.string (RS c.1), .string (RS c.2)]] W (Ret (fun r _ => r = .string (RS (areaQ a b c))) W)) := area05_any a b c k hk hk2 HA.out HB.out HC.out W hgW
 obtain ⟨ax, ay⟩ := a
 obtain ⟨bx, bY⟩ := b
 obtain ⟨cx, cy⟩ := c
 dsimp only at *
 go_enter Tryz.func133, Tryz.ntmps133
 go_upto_region 1 with fail
 rw [← HW.out]
 go_wp2_with fail
 refine HAR.out.mono ?_
 rintro e w1 ⟨_, rfl, rfl, hb1⟩
 go_wp2_with fail
 refine ((signQ_any _ _).mono fun _ _ h => h.ret).mono ?_
 rintro e w2 ⟨_, rfl, rfl, hb2⟩
 rw [HT.out]
 go_wp2_with fail
 go_ret
 exact ⟨_, rfl, rfl, (hbW.trans (hb1.mono hbW.size)).trans (hb2.mono (by have := hbW.size; have := hb1.size; omega))⟩
def tri3 (a b c : PtQ) : Nat → PtQ | 0 => a | 1 => b | _ => c
theorem whTo_step (a b c p : PtQ) (i : Nat) (hi : i < 3) : whTo a b c p (i + 1) = min (whTo a b c p i) (turnZ (tri3 a b c i) (tri3 a b c ((i + 1) % 3)) p) := by
 rcases (by omega : i = 0 ∨ i = 1 ∨ i = 2) with rfl | rfl | rfl <;> rfl
theorem where_any (w : World) (v : Value) (a b c p : PtQ) (k : Nat) (hk : 0 < k) (hk2 : k ≤ 1000) (ha : SzP k a) (hb : SzP k b) (hc : SzP k c) (hp : SzP k p) (hv : RdP w v (strP [a, b, c])) (hg : Good w) :
 Calls Tryz.prog 73 #[v, .agg #[.string (RS p.1), .string (RS p.2)]] w (Ret (fun r _ => r = .int .i64 (whTo a b c p 3)) w) := by
 have zA : ∀ i, SzP k (tri3 a b c i) := fun i => by unfold tri3; split <;> assumption
 have HTN : Hid (∀ (i j : Nat) (w : World), Good w → _) := fun i j w hg => turn05_any (tri3 a b c i) (tri3 a b c j) p k hk hk2 (zA i) (zA j) hp w hg
 have HST : Hid (∀ i, i < 3 → whTo a b c p (i + 1) = min (whTo a b c p i) (turnZ (tri3 a b c i) (tri3 a b c ((i + 1) % 3)) p)) := fun i hi => whTo_step a b c p i hi
 have h0 : whTo a b c p 0 = 1 := rfl
 obtain ⟨pc, cc, rfl, -, -, hcc⟩ := hv.open
 obtain ⟨bc, oc, rfl, hbc, hcel⟩ := hcc (by simp [strP])
 have HCC : Hid (∀ i : Nat, i < 3 → w.cell? ⟨bc, oc + i * 2, none⟩ = some (.string (RS (tri3 a b c i).1)) ∧ w.cell? ⟨bc, oc + i * 2 + 1, none⟩ = some (.string (RS (tri3 a b c i).2))) := fun i hi => by
  rcases (by omega : i = 0 ∨ i = 1 ∨ i = 2) with rfl | rfl | rfl
  ·exact hcel 0 (by simp [strP])
  ·exact hcel 1 (by simp [strP])
  ·exact hcel 2 (by simp [strP])
 rw [show (strP [a, b, c]).length = 3 from rfl]
 have HJ : Hid (∀ i : Nat, i < 3 → ∃ jb : Nat, jb < 3 ∧ jb = (i + 1) % 3 ∧ ((i : Int) + 1).tmod 3 = (jb : Int)) := fun i hi => by
  rcases (by omega : i = 0 ∨ i = 1 ∨ i = 2) with rfl | rfl | rfl
  ·exact ⟨1, by omega, rfl, by decide⟩
  ·exact ⟨2, by omega, rfl, by decide⟩
  ·exact ⟨0, by omega, rfl, by decide⟩
 clear hv hcc hcel zA ha hb hc hp
 generalize whTo a b c p = WH at *
 generalize tri3 a b c = A at *
 go_enter Tryz.func73, Tryz.ntmps73
 go_upto_region 1 with fail
 obtain ⟨W, hW⟩ : ∃ W, W = w.alloc (.cells #[.string (RS p.1), .string (RS p.2)] 59) := ⟨_, rfl⟩
 have hB : Below w.heap.size w W := by rw [hW]; exact zal _ _
 have b3 : BoxN W w.heap.size 59 [.string (RS p.1), .string (RS p.2)] := by rw [hW]; exact BoxN.new _ _ _ _ rfl
 rw [← hW]
 clear hW
 go_wp2_with fail
 go_loopw [5, 6] (fun t5 t6 wr => ∃ i : Nat, t6 = .int .i64 i ∧ i ≤ 3 ∧ t5 = .int .i64 (WH i) ∧ Below W.heap.size W wr) (fun _ t6 _ => 3 - (RowKit.intOf t6).toNat)
 case atStart => exact ⟨0, rfl, Nat.zero_le _, by rw [h0], Below.refl _ _⟩
 case round =>
  obtain ⟨i, rfl, hi, rfl, hbr⟩ := hrel
  have hBr := hB.trans (hbr.mono hB.size)
  rcases Nat.lt_or_ge i 3 with h3 | h3
  ·have hiz : (i : Int) < 3 := by omega
   obtain ⟨jb, hjb, ejb, hr1⟩ := HJ.out i h3
   have HS1 := Lib.hid (HST.out i h3)
   rw [← ejb] at HS1
   have HT1 : Hid (∀ (w : World), Good w → _) := fun w hg => HTN.out i jb w hg
   have x0 := zcq hBr hbc (HCC.out i h3).1
   have x1 := zcq hBr hbc (HCC.out i h3).2
   have x2 := zcq hBr hbc (HCC.out jb hjb).1
   have x3 := zcq hBr hbc (HCC.out jb hjb).2
   have b3r := b3.below hbr b3.lt
   have y0 := b3r.cell 0 rfl
   have y1 := b3r.cell 1 rfl
   have l3 := b3r.lt
   have hbcr : bc < wr.heap.size := Nat.lt_of_lt_of_le hbc hBr.size
   have hgd : Good wr.drew := (hg.below hBr).drewN 1
   have hw1 : IntKind.i64.wrap ((i : Int) + 1) = (i : Int) + 1 := IntWalk.i64_in _ (by omega)
   have hw3 : IntKind.i64.wrap (jb : Int) = (jb : Int) := IntWalk.i64_in _ (by omega)
   have hjbz : (jb : Int) < 3 := by omega
   generalize turnZ (A i) (A jb) p = z at *
   generalize A jb = pb at *
   generalize A i = pa at *
   clear ejb
   go_wp2_with fail
   go_region_held3 (fun w' => w'.cell? ⟨w.heap.size, 0, none⟩ = some (.string (RS p.1)) ∧ w'.cell? ⟨w.heap.size, 1, none⟩ = some (.string (RS p.2)) ∧ w'.cell? ⟨bc, oc + i * 2, none⟩ = some (.string (RS pa.1)) ∧ w'.cell? ⟨bc, oc + i * 2 + 1, none⟩ = some (.string (RS pa.2)) ∧ w'.cell? ⟨bc, oc + jb * 2, none⟩ = some (.string (RS pb.1)) ∧ w'.cell? ⟨bc, oc + jb * 2 + 1, none⟩ = some (.string (RS pb.2)))
    (first | exact ⟨y0, y1, x0, x1, x2, x3⟩ | exact ⟨p_1_0, p_1_1, p_1_2, p_1_3, p_1_4, p_1_5⟩)
    (first
    | (go_at_call 133; refine (HT1.out _ hgd).mono ?_; rintro e pw1 ⟨_, rfl, rfl, pb1⟩
       have p_1_0 := zct pb1 y0
       have p_1_1 := zct pb1 y1
       have p_1_2 := zct pb1 x0
       have p_1_3 := zct pb1 x1
       have p_1_4 := zct pb1 x2
       have p_1_5 := zct pb1 x3
       have ps1 : wr.heap.size ≤ pw1.heap.size := pb1.size
       have pg1 : Good pw1 := hgd.below pb1))
   have pB : Below wr.heap.size wr pw1 := zbt (below_drewN wr 1) pb1
   have hbq := hbr.trans (pB.mono hbr.size)
   go_wp2_with fail
   go_roundw
   case rel => exact ⟨i + 1, by go_num, by omega, by rw [HS1.out], hbq⟩
   case measure => simp [RowKit.intOf]; omega
  ·obtain rfl : i = 3 := by omega
   go_wp2_with fail
   go_ret
   exact ⟨_, rfl, rfl, hBr⟩
theorem at13_any (w : World) (vp vt vf : Value) (P : List PtQ) (T : List Tri) (F : List Rat) (h : FieldIn w vp vt vf P T 2 F) (p : PtQ) (hp : SzP 40 p) (hg : Good w) :
 Calls Tryz.prog 23 #[.agg #[vp, vt], vf, .agg #[.string (RS p.1), .string (RS p.2)]] w (Ret (fun r _ => (locN P T p T.length = [] ∧ r = .tuple #[.string ⟨#[]⟩, .bool false]) ∨ ∃ (t : Nat) (ht : t < T.length) (l : List Int), locN P T p T.length = (t : Int) :: l ∧ r = .tuple #[.string (RS (onQ P F T[t] p)), .bool true]) w) := by
 have HF := Lib.hid h
 have HCN : Hid (∀ (i : Nat) (hi : i < T.length) (w' : World), Below w.heap.size w w' → Good w' → Calls Tryz.prog 74 #[.agg #[vp, vt], .int .i64 (i : Int)] w' (Ret (fun r w' => RdP w' r (strP [ptI P T[i].1, ptI P T[i].2.1, ptI P T[i].2.2])) w')) := fun i hi w' hb hg => lcorn13_any w' vp vt P T 2 (RdC.below h.p hb) (RdC.below h.t hb) h.m.toMeshIn i hi _ rfl hg
 have hsP : ∀ z : Int, SzP 40 (ptI P z) := fun z => by
  have hs : ∀ p ∈ P, SzP 40 p := fun p hp => ⟨(h.m.sz p hp).1.mono (by omega), (h.m.sz p hp).2.mono (by omega)⟩
  exact ptF_sz hs (by omega) _
 have HWH : Hid (∀ (i : Nat) (hi : i < T.length) (w' : World) (v : Value), RdP w' v (strP [ptI P T[i].1, ptI P T[i].2.1, ptI P T[i].2.2]) → Good w' → Calls Tryz.prog 73 #[v, .agg #[.string (RS p.1), .string (RS p.2)]] w' (Ret (fun r _ => r = .int .i64 (whTo (ptI P T[i].1) (ptI P T[i].2.1) (ptI P T[i].2.2) p 3)) w')) := fun i hi w' v hv hg => where_any w' v _ _ _ p 40 (by omega) (by omega) (hsP _) (hsP _) (hsP _) hp hv hg
 have HIN : Hid (∀ (i : Nat) (hi : i < T.length), decide (0 ≤ whTo (ptI P T[i].1) (ptI P T[i].2.1) (ptI P T[i].2.2) p 3) = insideT P T p i) := fun i hi => by
  rw [whTo_in]
  unfold insideT
  rw [List.getElem?_eq_getElem hi]
 have HON : Hid (∀ (i : Nat) (hi : i < T.length) (w' : World), FieldIn w' vp vt vf P T 2 F → Good w' → Calls Tryz.prog 26 #[.agg #[vp, vt], vf, .int .i64 (i : Int), .agg #[.string (RS p.1), .string (RS p.2)]] w' (Ret (fun r _ => r = .string (RS (onQ P F T[i] p))) w')) := fun i hi w' h hg => by
  have hmem : T[i] ∈ T := List.getElem_mem hi
  have hAne : areaQ (ptI P T[i].1) (ptI P T[i].2.1) (ptI P T[i].2.2) ≠ 0 := by have := areaQ_pos h.m hmem; intro e; rw [e] at this; exact absurd this (by decide)
  have := lon13_any w' vp vt vf P T 2 F h i hi _ rfl p 40 (by omega) hp (by omega) hg
  rw [lonT_eq hAne] at this
  exact this
 have HN : Hid ((∀ i, i < T.length → insideT P T p i = false) → locN P T p T.length = []) := fun hh => locN_none hh
 have HH : Hid (∀ i, i < T.length → insideT P T p i = true → (∀ j, j < i → insideT P T p j = false) → ∃ l, locN P T p T.length = (i : Int) :: l) := fun i h1 h2 h3 => locN_head h1 h2 h3
 have htl := h.m.tlen
 obtain ⟨pp, cp, pt, ct, pf, cf, rfl, rfl, rfl⟩ := h.open
 clear h hsP hp
 go_enter Tryz.func23, Tryz.ntmps23
 go_upto_region 1 with fail
 obtain ⟨W, hW⟩ : ∃ W, W = (w.alloc (.cells #[.slice pp P.length cp, .slice pt T.length ct] 30)).alloc (.cells #[.string (RS p.1), .string (RS p.2)] 59) := ⟨_, rfl⟩
 have hB : Below w.heap.size w W := by rw [hW]; exact zal2 _ _ _
 have b5 : BoxN W (w.heap.size + 1) 59 [.string (RS p.1), .string (RS p.2)] := by rw [hW]; exact BoxN.new _ _ _ _ (by simp)
 have b3 : BoxN W w.heap.size 30 [.slice pp P.length cp, .slice pt T.length ct] := by
  rw [hW]
  have h1 := (BoxN.new w #[.slice pp P.length cp, .slice pt T.length ct] 30 _ rfl)
  exact h1.below (zal _ _) h1.lt
 rw [← hW]
 clear hW
 go_wp2_with fail
 go_loopw [8] (fun t8 wr => ∃ i : Nat, t8 = .int .i64 i ∧ i ≤ T.length ∧ Hid (∀ j, j < i → insideT P T p j = false) ∧ Below W.heap.size W wr) (fun t8 _ => T.length - (RowKit.intOf t8).toNat)
 case atStart => exact ⟨0, rfl, Nat.zero_le _, (fun j h => by omega), Below.refl _ _⟩
 case round =>
  obtain ⟨i, rfl, hi, HJ, hbr⟩ := hrel
  have hBr := hB.trans (hbr.mono hB.size)
  have c3 := b3.below hbr b3.lt
  have c5 := b5.below hbr b5.lt
  have m0 := c3.cell 0 rfl
  have m1 := c3.cell 1 rfl
  rcases Nat.lt_or_ge i T.length with hlt | hlt
  ·have hiz : (i : Int) < (T.length : Int) := by omega
   have y0 := c5.cell 0 rfl
   have y1 := c5.cell 1 rfl
   have l3 := c3.lt
   have l5 := c5.lt
   have HC1 : Hid (∀ (w' : World), Below w.heap.size w w' → Good w' → _) := fun w' hb hg => HCN.out i hlt w' hb hg
   have HW1 : Hid (∀ (w' : World) (v : Value), _ → Good w' → _) := fun w' v hv hg => HWH.out i hlt w' v hv hg
   have hin := HIN.out i hlt
   generalize whTo (ptI P T[i].1) (ptI P T[i].2.1) (ptI P T[i].2.2) p 3 = z at *
   have hgd : Good wr.drew := (hg.below hBr).drewN 1
   have hB0 : Below w.heap.size w wr.drew := hBr.trans ((below_drewN wr 1).mono hBr.size)
   have hw1 : IntKind.i64.wrap ((i : Int) + 1) = (i : Int) + 1 := IntWalk.i64_in _ (by omega)
   go_wp2_with fail
   go_region_held3 (fun w' => w'.cell? ⟨w.heap.size, 0, none⟩ = some (.slice pp P.length cp) ∧ w'.cell? ⟨w.heap.size, 1, none⟩ = some (.slice pt T.length ct) ∧ w'.cell? ⟨w.heap.size + 1, 0, none⟩ = some (.string (RS p.1)) ∧ w'.cell? ⟨w.heap.size + 1, 1, none⟩ = some (.string (RS p.2)))
    (first | exact ⟨m0, m1, y0, y1⟩ | exact ⟨p_1_0, p_1_1, p_1_2, p_1_3⟩ | exact ⟨p_2_0, p_2_1, p_2_2, p_2_3⟩)
    (first
    | (go_at_call 73; refine (HW1.out _ _ HRC.out pg1).mono ?_; rintro e pw2 ⟨_, rfl, rfl, pb2⟩
       have p_2_0 := zct pb2 p_1_0
       have p_2_1 := zct pb2 p_1_1
       have p_2_2 := zct pb2 p_1_2
       have p_2_3 := zct pb2 p_1_3
       have ps2 : pw1.heap.size ≤ pw2.heap.size := pb2.size
       have pg2 : Good pw2 := pg1.below pb2)
    | (go_at_call 74; refine (HC1.out _ hB0 hgd).mono ?_; rintro e pw1 ⟨vc, rfl, hrc, pb1⟩
       have p_1_0 := zct pb1 m0
       have p_1_1 := zct pb1 m1
       have p_1_2 := zct pb1 y0
       have p_1_3 := zct pb1 y1
       have ps1 : wr.heap.size ≤ pw1.heap.size := pb1.size
       have pg1 : Good pw1 := hgd.below pb1
       have HRC := Lib.hid hrc))
   have pB : Below wr.heap.size wr pw2 := zbt (zbt (below_drewN wr 1) pb1) pb2
   have hbq := hbr.trans (pB.mono hbr.size)
   have hBq := hBr.trans (pB.mono hBr.size)
   cases hc : insideT P T p i
   ·rw [hc] at hin
    have HJN : Hid (∀ j, j < i + 1 → insideT P T p j = false) := fun j hj => by
     rcases (by omega : j = i ∨ j < i) with rfl | h1
     ·exact hc
     ·exact HJ.out j h1
    clear hc
    go_wp2_with fail
    go_roundw
    case rel => exact ⟨i + 1, by go_num, by omega, HJN, hbq⟩
    case measure => simp [RowKit.intOf]; omega
   ·rw [hc] at hin
    obtain ⟨l, hl⟩ := HH.out i hlt hc HJ.out
    have HL := Lib.hid hl
    have d3 := c3.below pB c3.lt
    have d5 := c5.below pB c5.lt
    have n0 := d3.cell 0 rfl
    have n1 := d3.cell 1 rfl
    have v0 := d5.cell 0 rfl
    have v1 := d5.cell 1 rfl
    have HO := Lib.hid (HON.out i hlt _ (HF.out.below hBq) (hg.below hBq))
    clear hc hl m0 m1 y0 y1
    go_wp2_with fail
    refine HO.out.mono ?_
    rintro e w2 ⟨_, rfl, rfl, hb2⟩
    go_wp2_with fail
    go_ret2
    exact ⟨_, rfl, .inr ⟨i, hlt, l, HL.out, rfl⟩, hBq.trans (hb2.mono hBq.size)⟩
  ·have HLN := Lib.hid (HN.out (fun j hj => HJ.out j (by omega)))
   have hiz : (T.length : Int) ≤ (i : Int) := by omega
   go_wp2_with fail
   go_ret2
   exact ⟨_, rfl, .inl ⟨HLN.out, rfl⟩, hBr⟩
theorem fieldValues_long (w : World) (kz s0 s1 : Int) (half : Bool) (a0 a1 a2 a3 a4 a5 : Int) (ah : Bool) (b0 b1 b2 b3 b4 b5 : Int) (bh : Bool) (px py : ByteArray) (hl : 40 < px.size ∨ (px.size ≤ 40 ∧ 40 < py.size)) (hg : Good w) :
 Calls Tryz.prog 4 #[.agg #[.int .u8 kz, .int .i8 s0, .int .i8 s1, .bool half, .int .i8 a0, .int .i8 a1, .int .i8 a2, .int .i8 a3, .int .i8 a4, .int .i8 a5, .bool ah, .int .i8 b0, .int .i8 b1, .int .i8 b2, .int .i8 b3, .int .i8 b4, .int .i8 b5, .bool bh], .agg #[.string px, .string py]] w (Ret (fun r _ => r = .bool true) w) := by
 go_enter Tryz.func4, Tryz.ntmps4
 go_wp2_with fail
 obtain ⟨W, hW⟩ : ∃ W, W = (w.alloc (.cells #[.int .u8 kz, .int .i8 s0, .int .i8 s1, .bool half, .int .i8 a0, .int .i8 a1, .int .i8 a2, .int .i8 a3, .int .i8 a4, .int .i8 a5, .bool ah, .int .i8 b0, .int .i8 b1, .int .i8 b2, .int .i8 b3, .int .i8 b4, .int .i8 b5, .bool bh] 57)).alloc (.cells #[.string px, .string py] 59) := ⟨_, rfl⟩
 have hB : Below w.heap.size w W := by rw [hW]; exact zal2 _ _ _
 have by3 : BoxN W (w.heap.size + 1) 59 [.string px, .string py] := by rw [hW]; exact BoxN.new _ _ _ _ (by simp)
 rw [← hW]
 clear hW
 refine (known13_any W (hg.below hB)).mono ?_
 rintro e o1 ⟨_, rfl, rfl, hb1⟩
 have hB1 := hB.trans (hb1.mono hB.size)
 have by31 := by3.below hb1 by3.lt
 clear hb1 hB by3
 have p0 := by31.cell 0 rfl
 have p1 := by31.cell 1 rfl
 rcases hl with h1 | ⟨h1, h2⟩
 ·have h1d : decide ((40 : Int) < (px.size : Int)) = true := decide_eq_true (by omega)
  go_wp2_with fail
  refine (known13_any o1 (hg.below hB1)).mono ?_
  rintro e o2 ⟨_, rfl, rfl, hb2⟩
  go_wp2_with fail
  go_ret
  exact ⟨_, rfl, rfl, hB1.trans (hb2.mono hB1.size)⟩
 ·have h1d : decide ((40 : Int) < (px.size : Int)) = false := decide_eq_false (by omega)
  have h2d : decide ((40 : Int) < (py.size : Int)) = true := decide_eq_true (by omega)
  go_wp2_with fail
  refine (known13_any o1 (hg.below hB1)).mono ?_
  rintro e o2 ⟨_, rfl, rfl, hb2⟩
  go_wp2_with fail
  go_ret
  exact ⟨_, rfl, rfl, hB1.trans (hb2.mono hB1.size)⟩
theorem fieldValues_walk (w : World) (kz s0 s1 : Int) (half : Bool) (a0 a1 a2 a3 a4 a5 : Int) (ah : Bool) (b0 b1 b2 b3 b4 b5 : Int) (bh : Bool) (px py : ByteArray) (hx : px.size ≤ 40) (hy : py.size ≤ 40) (P : List PtQ) (T : List Tri) (F : List Rat) (rp : Bool)
 (HMK : Hid (∀ w, Good w → Calls Tryz.prog 9 #[.agg #[.int .u8 kz, .int .i8 s0, .int .i8 s1, .bool half]] w (Ret (fun r w' => ∃ vp vt, r = .agg #[vp, vt] ∧ RdP w' vp (strP P) ∧ RdT w' vt T) w)))
 (HMF : Hid (∀ w vp vt, RdP w vp (strP P) → RdT w vt T → Good w → Calls Tryz.prog 20 #[.agg #[vp, vt], .agg #[.int .i8 a0, .int .i8 a1, .int .i8 a2, .int .i8 a3, .int .i8 a4, .int .i8 a5, .bool ah]] w (Ret (fun r w' => FieldIn w' vp vt r P T 2 F) w)))
 (HRP : Hid (∀ w, Good w → Calls Tryz.prog 22 #[.agg #[.string px, .string py]] w (Ret (fun r _ => r = .bool rp) w)))
 (HCS : Hid ((rp = false ∧ ∀ w vp vt vf, FieldIn w vp vt vf P T 2 F → Good w → Calls Tryz.prog 21 #[.agg #[vp, vt], vf, .agg #[.string px, .string py]] w (Ret (fun r _ => r = .tuple #[.string ⟨#[]⟩, .int .i64 2]) w)) ∨
   (rp = true ∧ ∃ (sa : ByteArray) (ba : Bool), (ba = false → sa = ⟨#[]⟩) ∧ (∀ w vp vt vf, FieldIn w vp vt vf P T 2 F → Good w → Calls Tryz.prog 21 #[.agg #[vp, vt], vf, .agg #[.string px, .string py]] w (Ret (fun r _ => r = .tuple #[.string sa, .int .i64 (if ba then 0 else 28)]) w)) ∧
     ∀ w vp vt vf, FieldIn w vp vt vf P T 2 F → Good w → Calls Tryz.prog 23 #[.agg #[vp, vt], vf, .agg #[.string px, .string py]] w (Ret (fun r _ => r = .tuple #[.string sa, .bool ba]) w)))) (hg : Good w) :
 Calls Tryz.prog 4 #[.agg #[.int .u8 kz, .int .i8 s0, .int .i8 s1, .bool half, .int .i8 a0, .int .i8 a1, .int .i8 a2, .int .i8 a3, .int .i8 a4, .int .i8 a5, .bool ah, .int .i8 b0, .int .i8 b1, .int .i8 b2, .int .i8 b3, .int .i8 b4, .int .i8 b5, .bool bh], .agg #[.string px, .string py]] w (Ret (fun r _ => r = .bool true) w) := by
 go_enter Tryz.func4, Tryz.ntmps4
 go_wp2_with fail
 obtain ⟨W, hW⟩ : ∃ W, W = (w.alloc (.cells #[.int .u8 kz, .int .i8 s0, .int .i8 s1, .bool half, .int .i8 a0, .int .i8 a1, .int .i8 a2, .int .i8 a3, .int .i8 a4, .int .i8 a5, .bool ah, .int .i8 b0, .int .i8 b1, .int .i8 b2, .int .i8 b3, .int .i8 b4, .int .i8 b5, .bool bh] 57)).alloc (.cells #[.string px, .string py] 59) := ⟨_, rfl⟩
 have hB : Below w.heap.size w W := by rw [hW]; exact zal2 _ _ _
 have by3 : BoxN W (w.heap.size + 1) 59 [.string px, .string py] := by rw [hW]; exact BoxN.new _ _ _ _ (by simp)
 have bx : BoxN W w.heap.size 57 [.int .u8 kz, .int .i8 s0, .int .i8 s1, .bool half, .int .i8 a0, .int .i8 a1, .int .i8 a2, .int .i8 a3, .int .i8 a4, .int .i8 a5, .bool ah, .int .i8 b0, .int .i8 b1, .int .i8 b2, .int .i8 b3, .int .i8 b4, .int .i8 b5, .bool bh] := by
  rw [hW]
  have h1 := BoxN.new w #[.int .u8 kz, .int .i8 s0, .int .i8 s1, .bool half, .int .i8 a0, .int .i8 a1, .int .i8 a2, .int .i8 a3, .int .i8 a4, .int .i8 a5, .bool ah, .int .i8 b0, .int .i8 b1, .int .i8 b2, .int .i8 b3, .int .i8 b4, .int .i8 b5, .bool bh] 57 _ rfl
  exact h1.below (zal _ _) h1.lt
 rw [← hW]
 clear hW
 refine (known13_any W (hg.below hB)).mono ?_
 rintro e o1 ⟨_, rfl, rfl, hb1⟩
 have hB1 := hB.trans (hb1.mono hB.size)
 have bx1 := bx.below hb1 bx.lt
 have by31 := by3.below hb1 by3.lt
 clear hb1 hB bx by3
 have k0 := bx1.cell 0 rfl
 have k1 := bx1.cell 1 rfl
 have k2 := bx1.cell 2 rfl
 have k3 := bx1.cell 3 rfl
 have p0 := by31.cell 0 rfl
 have p1 := by31.cell 1 rfl
 have h1d : decide ((40 : Int) < (px.size : Int)) = false := decide_eq_false (by omega)
 have h2d : decide ((40 : Int) < (py.size : Int)) = false := decide_eq_false (by omega)
 go_wp2_with fail
 refine (HMK.out o1 (hg.below hB1)).mono ?_
 rintro e o2 ⟨_, rfl, ⟨vp, vt, rfl, hp, ht⟩, hb2⟩
 have hB2 := hB1.trans (hb2.mono hB1.size)
 have bx2 := bx1.below hb2 bx1.lt
 have by2 := by31.below hb2 by31.lt
 obtain ⟨pp, cp, rfl, -, -, -⟩ := hp.open
 obtain ⟨pt, ct, rfl, -, -, -⟩ := ht.open
 rw [strP_length] at *
 clear hb2 hB1 bx1 by31 k0 k1 k2 k3 p0 p1 HMK h1d h2d
 go_upto_region 4 with fail
 obtain ⟨o3, ho3⟩ : ∃ W, W = o2.alloc (.cells #[.slice pp P.length cp, .slice pt T.length ct] 30) := ⟨_, rfl⟩
 have h23 : Below o2.heap.size o2 o3 := by rw [ho3]; exact zal _ _
 have b5 : BoxN o3 o2.heap.size 30 [.slice pp P.length cp, .slice pt T.length ct] := by rw [ho3]; exact BoxN.new _ _ _ _ rfl
 have hB3 := hB2.trans (h23.mono hB2.size)
 have bx3 := bx2.below h23 bx2.lt
 have by3 := by2.below h23 by2.lt
 rw [← ho3]
 clear ho3
 have m0 := b5.cell 0 rfl
 have m1 := b5.cell 1 rfl
 have k4 := bx3.cell 4 rfl
 have k5 := bx3.cell 5 rfl
 have k6 := bx3.cell 6 rfl
 have k7 := bx3.cell 7 rfl
 have k8 := bx3.cell 8 rfl
 have k9 := bx3.cell 9 rfl
 have k10 := bx3.cell 10 rfl
 go_wp2_with fail
 refine (HMF.out o3 _ _ (RdC.below hp h23) (RdC.below ht h23) (hg.below hB3)).mono ?_
 rintro e o4 ⟨_, rfl, hF, hb4⟩
 have hB4 := hB3.trans (hb4.mono hB3.size)
 have b54 := b5.below hb4 b5.lt
 have by4 := by3.below hb4 by3.lt
 obtain ⟨_, _, _, _, pf, cf, _, _, rfl⟩ := hF.open
 have HF4 := Lib.hid hF
 clear m0 m1 k4 k5 k6 k7 k8 k9 k10 hb4 hB3 bx3 bx2 b5 hp ht h23 hB2 hF by3 by2
 have m0 := b54.cell 0 rfl
 have m1 := b54.cell 1 rfl
 have q0 := by4.cell 0 rfl
 have q1 := by4.cell 1 rfl
 rcases HCS.out with ⟨rfl, hv⟩ | ⟨rfl, sa, ba, hsa, hv, hat⟩
 ·have HV := Lib.hid hv
  clear HCS hv
  go_wp2_with fail
  refine (HV.out o4 _ _ _ HF4.out (hg.below hB4)).mono ?_
  rintro e o5 ⟨_, rfl, rfl, hb5⟩
  have hB5 := hB4.trans (hb5.mono hB4.size)
  have by5 := by4.below hb5 by4.lt
  have r0 := by5.cell 0 rfl
  have r1 := by5.cell 1 rfl
  clear m0 m1 q0 q1
  go_wp2_with fail
  refine (HRP.out o5 (hg.below hB5)).mono ?_
  rintro e o6 ⟨_, rfl, rfl, hb6⟩
  go_wp2_with fail
  go_ret
  exact ⟨_, rfl, rfl, hB5.trans (hb6.mono hB5.size)⟩
 ·obtain ⟨ez, hez⟩ : ∃ ez : Int, ez = (if ba then 0 else 28) := ⟨_, rfl⟩
  simp only [← hez] at hv
  have HV := Lib.hid hv
  have HAT := Lib.hid hat
  have HEZ := Lib.hid hez
  clear HCS hv hat hez
  go_wp2_with fail
  refine (HV.out o4 _ _ _ HF4.out (hg.below hB4)).mono ?_
  rintro e o5 ⟨_, rfl, rfl, hb5⟩
  have hB5 := hB4.trans (hb5.mono hB4.size)
  have by5 := by4.below hb5 by4.lt
  have b55 := b54.below hb5 b54.lt
  have HF5 := Lib.hid (HF4.out.below hb5)
  have r0 := by5.cell 0 rfl
  have r1 := by5.cell 1 rfl
  clear m0 m1 q0 q1 hb5
  go_wp2_with fail
  refine (HRP.out o5 (hg.below hB5)).mono ?_
  rintro e o6 ⟨_, rfl, rfl, hb6⟩
  have hB6 := hB5.trans (hb6.mono hB5.size)
  have by6 := by5.below hb6 by5.lt
  have b56 := b55.below hb6 b55.lt
  have HF6 := Lib.hid (HF5.out.below hb6)
  clear r0 r1
  have r0 := by6.cell 0 rfl
  have r1 := by6.cell 1 rfl
  have m0 := b56.cell 0 rfl
  have m1 := b56.cell 1 rfl
  go_wp2_with fail
  refine (HAT.out o6 _ _ _ HF6.out (hg.below hB6)).mono ?_
  rintro e o7 ⟨_, rfl, rfl, hb7⟩
  have hB7 := hB6.trans (hb7.mono hB6.size)
  cases ba
  ·obtain rfl := hsa rfl
   obtain rfl : ez = 28 := HEZ.out
   go_wp2_with fail
   go_ret
   exact ⟨_, rfl, rfl, hB7⟩
  ·clear hsa
   obtain rfl : ez = 0 := HEZ.out
   go_wp2_with fail
   go_ret
   exact ⟨_, rfl, rfl, hB7⟩
theorem fieldValues_all (w : World) (kz s0 s1 : Int) (half : Bool) (a0 a1 a2 a3 a4 a5 : Int) (ah : Bool) (b0 b1 b2 b3 b4 b5 : Int) (bh : Bool) (px py : ByteArray) (hk0 : 0 ≤ kz) (hk1 : kz ≤ 255) (hs0 : -128 ≤ s0 ∧ s0 ≤ 127) (hs1 : -128 ≤ s1 ∧ s1 ≤ 127) (ha : ∀ x ∈ [a0, a1, a2, a3, a4, a5], -128 ≤ x ∧ x ≤ 127) (hg : Good w) :
 Calls Tryz.prog 4 #[.agg #[.int .u8 kz, .int .i8 s0, .int .i8 s1, .bool half, .int .i8 a0, .int .i8 a1, .int .i8 a2, .int .i8 a3, .int .i8 a4, .int .i8 a5, .bool ah, .int .i8 b0, .int .i8 b1, .int .i8 b2, .int .i8 b3, .int .i8 b4, .int .i8 b5, .bool bh], .agg #[.string px, .string py]] w (Ret (fun r _ => r = .bool true) w) := by
 by_cases hl : 40 < px.size ∨ (px.size ≤ 40 ∧ 40 < py.size)
 ·exact fieldValues_long w kz s0 s1 half a0 a1 a2 a3 a4 a5 ah b0 b1 b2 b3 b4 b5 bh px py hl hg
 have hx : px.size ≤ 40 := by omega
 have hy : py.size ≤ 40 := by omega
 obtain ⟨kk, hk⟩ : ∃ k : Nat, kz.tmod 8 = (k : Int) := ⟨(kz.tmod 8).toNat, by have := Int.tmod_nonneg 8 hk0; omega⟩
 have HMK := Lib.hid fun w hg => make12_any w kz s0 s1 half kk hk hk0 hk1 hs0 hs1 hg
 have hM : MeshOK (sheetP kk s0 s1 half) (shapeT kk) 2 := sheet_ok kk s0 s1 half
 have hP6 : (sheetP kk s0 s1 half).length ≤ 6 := by rw [sheetP_length]; exact shapeP_len kk
 have hFs := heights_Sz [a0, a1, a2, a3, a4, a5] ah (sheetP kk s0 s1 half).length
 have HMF : Hid (∀ w vp vt, RdP w vp (strP (sheetP kk s0 s1 half)) → RdT w vt (shapeT kk) → Good w → Calls Tryz.prog 20 #[.agg #[vp, vt], .agg #[.int .i8 a0, .int .i8 a1, .int .i8 a2, .int .i8 a3, .int .i8 a4, .int .i8 a5, .bool ah]] w (Ret (fun r w' => FieldIn w' vp vt r (sheetP kk s0 s1 half) (shapeT kk) 2 (heightsF [a0, a1, a2, a3, a4, a5] ah (sheetP kk s0 s1 half).length)) w)) := fun w vp vt hp ht hg => by
  obtain ⟨pp, cp, rfl, -, -, -⟩ := hp.open
  rw [strP_length]
  rw [strP_length] at hp
  refine (make13_any w pp _ cp vt a0 a1 a2 a3 a4 a5 ah ha hP6 hg).mono ?_
  rintro e w' ⟨r, rfl, ⟨hf, -⟩, hb⟩
  exact ⟨r, rfl, make_in (RdC.below hp hb) (RdC.below ht hb) hf, hb⟩
 have HRP := Lib.hid fun w hg => rightPoint_any px py (by omega) (by omega) w hg
 refine fieldValues_walk w kz s0 s1 half a0 a1 a2 a3 a4 a5 ah b0 b1 b2 b3 b4 b5 bh px py hx hy _ _ _ _ HMK HMF HRP ?_ hg
 generalize hF : heightsF [a0, a1, a2, a3, a4, a5] ah (sheetP kk s0 s1 half).length = F at *
 generalize sheetP kk s0 s1 half = P at *
 generalize shapeT kk = T at *
 cases hr : allQ [px, py]
 ·exact .inl ⟨rfl, fun w vp vt vf h hg => value_number w vp vt vf P T 2 F h px py (by omega) (by omega) (by rw [hr]; rfl) hg⟩
 ·refine .inr ⟨rfl, ?_⟩
  have hr2 : rightQ px.data.toList = true ∧ rightQ py.data.toList = true := by unfold allQ at hr; simpa using hr
  obtain ⟨qx, rfl, zx⟩ := rightM hr2.1 (by omega) hx
  obtain ⟨qy, rfl, zy⟩ := rightM hr2.2 (by omega) hy
  have hp : SzP 40 ((qx, qy) : PtQ) := ⟨zx, zy⟩
  have hp2 : SzP 200 ((qx, qy) : PtQ) := ⟨zx.mono (by omega), zy.mono (by omega)⟩
  cases hl : locN P T (qx, qy) T.length with
  | nil =>
    refine ⟨⟨#[]⟩, false, fun _ => rfl, fun w vp vt vf h hg => value_out w vp vt vf P T 2 F h (qx, qy) hp2 hl hg, fun w vp vt vf h hg => ?_⟩
    refine (at13_any w vp vt vf P T F h (qx, qy) hp hg).mono ?_
    rintro e w' ⟨r, rfl, ⟨-, h2⟩ | ⟨t, ht, l, h1, -⟩, hb⟩
    ·exact ⟨_, rfl, h2, hb⟩
    ·rw [hl] at h1; cases h1
  | cons z l =>
    have hzm : z ∈ locN P T (qx, qy) T.length := by rw [hl]; exact List.mem_cons_self ..
    obtain ⟨t, ht, rfl⟩ : ∃ t : Nat, t < T.length ∧ z = (t : Int) := by
     unfold locN at hzm
     obtain ⟨t, ht, rfl⟩ := List.mem_map.1 hzm
     exact ⟨t, List.mem_range.1 (List.mem_filter.1 ht).1, rfl⟩
    have hmem : T[t] ∈ T := List.getElem_mem ht
    have hs : SzP 200 (slopeT P F T[t]) := by
     have := slope_Sz hM rfl hFs hmem
     exact ⟨this.1.mono (by omega), this.2.mono (by omega)⟩
    refine ⟨RS (onQ P F T[t] (qx, qy)), true, (fun e => by cases e), fun w vp vt vf h hg => value_in w vp vt vf P T 2 F h (qx, qy) hp2 t l hl ht hs (onQ_Sz hM hFs hmem hp) hg, fun w vp vt vf h hg => ?_⟩
    refine (at13_any w vp vt vf P T F h (qx, qy) hp hg).mono ?_
    rintro e w' ⟨r, rfl, ⟨h1, -⟩ | ⟨t', ht', l', h1, h2⟩, hb⟩
    ·rw [hl] at h1; cases h1
    ·rw [hl] at h1
     injection h1 with h1 _
     obtain rfl : t = t' := by omega
     exact ⟨_, rfl, h2, hb⟩
end Go.Proofs.YtdhcliekejiegaaGreatDoor
