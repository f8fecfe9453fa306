/- mesh.Contains; klippelaw12.MeshLocates returns true. -/
import Derived.Test.YtccngnjkehibiaaGreatDoorM12
import Derived.Test.YtccngnjkehibiaaGreatDoorM11
import Derived.Test.YtccngnjkehibiaaGreatDoorW3
namespace Go.Proofs.YtccngnjkehibiaaGreatDoor
open Go.RowKit Go.Lib

set_option maxRecDepth 100000 in
theorem contains_of (w : World) (vp vt : Value) (sx sy : ByteArray) (P : List (ByteArray × ByteArray)) (T : List Tri) (hp : RdP w vp P) (ht : RdT w vt T) (Φ : Value → World → Prop) (b : Bool) (n : Int)
    (hΦ : ∀ r w', Φ r w' → ∃ ps m cs, r = .tuple #[.slice ps m cs, .int .i64 n] ∧ decide ((0 : Int) < (m : Int)) = b)
    (HL : ∀ w', Below w.heap.size w w' → Calls Tryz.prog 31 #[.agg #[vp, vt], .agg #[.string sx, .string sy]] w' (Ret Φ w')) :
    Calls Tryz.prog 30 #[.agg #[vp, vt], .agg #[.string sx, .string sy]] w (Ret (fun r _ => r = .tuple #[.bool b, .int .i64 n]) w) := by
  have HL' := Lib.hid HL
  have HF := Lib.hid hΦ
  obtain ⟨pp, cp, rfl, -, -, -⟩ := hp.open
  obtain ⟨pt, ct, rfl, -, -, -⟩ := ht.open
  clear HL hΦ hp ht
  go_enter Tryz.func30, Tryz.ntmps30
  go_wp2_with fail
  obtain ⟨W, hW⟩ : ∃ W, W = (w.alloc (.cells #[.slice pp P.length cp, .slice pt T.length ct] 34)).alloc (.cells #[.string sx, .string sy] 24) := ⟨_, rfl⟩
  have hB : Below w.heap.size w W := by rw [hW]; exact ((Below.refl _ _).alloc (Nat.le_refl _) _).alloc (by simp) _
  rw [← hW]
  clear hW
  refine (HL'.out W hB).mono ?_
  rintro e w1 ⟨r, rfl, hr, hb1⟩
  obtain ⟨ps, m, cs, rfl, hmb⟩ := HF.out _ _ hr
  have hB1 := hB.trans (hb1.mono hB.size)
  clear hr hb1 hB
  rcases Nat.eq_zero_or_pos m with rfl | hm
  · obtain rfl : b = false := by rw [← hmb]; rfl
    clear hmb
    go_wp2_with fail
    go_ret2
    exact ⟨_, rfl, rfl, hB1⟩
  · have hm1 : (0 : Int) < (m : Int) := by omega
    obtain rfl : b = true := by rw [← hmb]; exact decide_eq_true hm1
    clear hmb
    go_wp2_with fail
    go_ret2
    exact ⟨_, rfl, rfl, hB1⟩

theorem RdI.shape {w : World} {v : Value} {l : List Int} (h : RdI .i64 w v l) : ∃ ps cs, v = .slice ps l.length cs := by
  obtain ⟨ps, cs, rfl, -, -, -⟩ := h.open
  exact ⟨ps, cs, rfl⟩
theorem allQ_bad (q : Rat) : errNum (allQ [RS q, ⟨#[49, 47, 49]⟩]) = 2 := by
  unfold allQ
  simp only [List.all_cons, List.all_nil, Bool.and_true]
  rw [show rightQ (ByteArray.mk #[49, 47, 49]).data.toList = false by decide +kernel, Bool.and_false]
  rfl

theorem contains_ok (w : World) (vp vt : Value) (P : List PtQ) (T : List Tri) (k : Nat) (hp : RdP w vp (strP P)) (ht : RdT w vt T) (hm : MeshOK P T k) (p : PtQ) (hpz : SzP 200 p) (hg : Good w) :
    Calls Tryz.prog 30 #[.agg #[vp, vt], .agg #[.string (RS p.1), .string (RS p.2)]] w (Ret (fun r _ => r = .tuple #[.bool (decide ((0 : Int) < ((locN P T p T.length).length : Int))), .int .i64 0]) w) := by
  refine contains_of w vp vt _ _ _ T hp ht _ _ 0 ?_ fun w' hb => locate_ok w' vp vt P T k (RdC.below hp hb) (RdC.below ht hb) hm p hpz (hg.below hb)
  rintro r w' ⟨v, rfl, hr⟩
  obtain ⟨ps, cs, rfl⟩ := hr.shape
  exact ⟨ps, _, cs, rfl, rfl⟩
theorem contains_number (w : World) (vp vt : Value) (P : List PtQ) (T : List Tri) (k : Nat) (hp : RdP w vp (strP P)) (ht : RdT w vt T) (hm : MeshOK P T k) (px py : ByteArray) (hx : px.size < 1000000000) (hy : py.size < 1000000000) (he : errNum (allQ [px, py]) = 2) (hg : Good w) :
    Calls Tryz.prog 30 #[.agg #[vp, vt], .agg #[.string px, .string py]] w (Ret (fun r _ => r = .tuple #[.bool false, .int .i64 2]) w) := by
  refine contains_of w vp vt _ _ _ T hp ht _ _ 2 ?_ fun w' hb => locate_number w' vp vt P T k (RdC.below hp hb) (RdC.below ht hb) hm px py hx hy he (hg.below hb)
  rintro r w' rfl
  exact ⟨none, 0, 0, rfl, rfl⟩

set_option maxHeartbeats 4000000 in
set_option maxRecDepth 100000 in
theorem meshLocates_all (w : World) (kz s0 s1 : Int) (half : Bool) (x0 x1 : Int) (hk0 : 0 ≤ kz) (hk1 : kz ≤ 255) (hs0 : -128 ≤ s0 ∧ s0 ≤ 127) (hs1 : -128 ≤ s1 ∧ s1 ≤ 127)
    (hx0 : -128 ≤ x0 ∧ x0 ≤ 127) (hx1 : -128 ≤ x1 ∧ x1 ≤ 127) (hg : Good w) :
    Calls Tryz.prog 6 #[.agg #[.int .u8 kz, .int .i8 s0, .int .i8 s1, .bool half], .agg #[.int .i8 x0, .int .i8 x1]] w (Ret (fun r _ => r = .bool true) w) := by
  obtain ⟨k, hk⟩ : ∃ k : Nat, kz.tmod 8 = (k : Int) := ⟨(kz.tmod 8).toNat, by have := Int.tmod_nonneg 8 hk0; omega⟩
  have HMK := Lib.hid fun w hg => make12_any w kz s0 s1 half k hk hk0 hk1 hs0 hs1 hg
  have HPL := Lib.hid fun w hg => place6_any w kz s0 s1 half x0 x1 hs0 hs1 hx0 hx1 hg
  have hM := sheet_ok k s0 s1 half
  obtain ⟨p, hp⟩ : ∃ p : PtQ, p = (placeB 6 s0 half x0, placeB 6 s1 half x1) := ⟨_, rfl⟩
  have zp : SzP 3 p := by rw [hp]; exact ⟨placeB_Sz 6 (by omega) (by omega) _ _ _ hx0, placeB_Sz 6 (by omega) (by omega) _ _ _ hx1⟩
  rw [show placeB 6 s0 half x0 = p.1 by rw [hp], show placeB 6 s1 half x1 = p.2 by rw [hp]] at HPL
  generalize sheetP k s0 s1 half = P at *
  generalize shapeT k = T at *
  have HM := Lib.hid hM
  have HZP := Lib.hid (show SzP 200 p from ⟨zp.1.mono (by omega), zp.2.mono (by omega)⟩)
  have hz1 := zp.1.size (by omega)
  have hz2 := zp.2.size (by omega)
  have HCO : Hid (∀ (w : World) (vp vt : Value), RdP w vp (strP P) → RdT w vt T → Good w → _) := fun w vp vt hp ht hg => contains_ok w vp vt P T 2 hp ht HM.out p HZP.out hg
  have HLO : Hid (∀ (w : World) (vp vt : Value), RdP w vp (strP P) → RdT w vt T → Good w → _) := fun w vp vt hp ht hg => locate_ok w vp vt P T 2 hp ht HM.out p HZP.out hg
  have HCN : Hid (∀ (w : World) (vp vt : Value), RdP w vp (strP P) → RdT w vt T → Good w → _) := fun w vp vt hp ht hg => contains_number w vp vt P T 2 hp ht HM.out (RS p.1) ⟨#[49, 47, 49]⟩ (by omega) (by decide) (allQ_bad p.1) hg
  have HLN : Hid (∀ (w : World) (vp vt : Value), RdP w vp (strP P) → RdT w vt T → Good w → _) := fun w vp vt hp ht hg => locate_number w vp vt P T 2 hp ht HM.out (RS p.1) ⟨#[49, 47, 49]⟩ (by omega) (by decide) (allQ_bad p.1) hg
  have HLC : Hid (∀ (i : Nat) (h : i < T.length) (w : World) (vp vt : Value), RdP w vp (strP P) → RdT w vt T → _) := fun i h w vp vt hp ht => lcorners_any w vp vt P T 2 hp ht HM.out.toMeshIn i (i : Int) rfl h T[i] rfl
  have HIN : Hid (∀ (i : Nat) (h : i < T.length) (w : World), Good w → _) := fun i h w hg => linside_any (ptI P T[i].1) (ptI P T[i].2.1) (ptI P T[i].2.2) p 200 (by omega) (by omega)
    (have z := (ptI_SzP HM.out (List.getElem_mem h)).1; ⟨z.1.mono (by omega), z.2.mono (by omega)⟩)
    (have z := (ptI_SzP HM.out (List.getElem_mem h)).2.1; ⟨z.1.mono (by omega), z.2.mono (by omega)⟩)
    (have z := (ptI_SzP HM.out (List.getElem_mem h)).2.2; ⟨z.1.mono (by omega), z.2.mono (by omega)⟩) HZP.out w hg
  have hn8 : T.length ≤ 800 := hM.tlen
  obtain ⟨i0, hi, hzz0, hzz1, hzz2⟩ := info_parts info_i64
  clear hk hk0 hk1 hs0 hs1 hx0 hx1 hM zp hp hz1 hz2
  go_enter Tryz.func6, Tryz.ntmps6
  go_wp2_with fail
  obtain ⟨W, hW⟩ : ∃ W, W = (w.alloc (.cells #[.int .u8 kz, .int .i8 s0, .int .i8 s1, .bool half] 49)).alloc (.cells #[.int .i8 x0, .int .i8 x1] 47) := ⟨_, rfl⟩
  have hB : Below w.heap.size w W := by rw [hW]; exact ((Below.refl _ _).alloc (Nat.le_refl _) _).alloc (by simp) _
  have b5 : BoxN W (w.heap.size + 1) 47 [.int .i8 x0, .int .i8 x1] := by rw [hW]; exact BoxN.new _ _ _ _ (by simp)
  have b3 : BoxN W w.heap.size 49 [.int .u8 kz, .int .i8 s0, .int .i8 s1, .bool half] := by
    rw [hW]
    have h1 := (BoxN.new w #[.int .u8 kz, .int .i8 s0, .int .i8 s1, .bool half] 49 _ rfl)
    exact h1.below ((Below.refl _ _).alloc (Nat.le_refl _) _) h1.lt
  rw [← hW]
  clear hW
  refine (known12_any W (hg.below hB)).mono ?_
  rintro e o1 ⟨_, rfl, rfl, hb1⟩
  have hB1 := hB.trans (hb1.mono hB.size)
  have b51 := b5.below hb1 b5.lt
  have b31 := b3.below hb1 b3.lt
  clear hb1 hB b5 b3
  have k0 := b31.cell 0 rfl
  have k1 := b31.cell 1 rfl
  have k2 := b31.cell 2 rfl
  have k3 := b31.cell 3 rfl
  go_wp2_with fail
  refine (HMK.out o1 (hg.below hB1)).mono ?_
  rintro e o2 ⟨_, rfl, ⟨vp, vt, rfl, hp, ht⟩, hb2⟩
  have hB2 := hB1.trans (hb2.mono hB1.size)
  have b52 := b51.below hb2 b51.lt
  have b32 := b31.below hb2 b31.lt
  obtain ⟨pp, cp, rfl, -, -, -⟩ := hp.open
  obtain ⟨pt, ct, rfl, -, -, -⟩ := ht.open
  rw [strP_length] at *
  have HPP := Lib.hid hp
  have HTT := Lib.hid ht
  clear hb2 hB1 b51 b31 hp ht k0 k1 k2 k3
  obtain ⟨o3, ho3⟩ : ∃ W, W = o2.alloc (.cells #[.slice pp P.length cp, .slice pt T.length ct] 34) := ⟨_, rfl⟩
  have hb3 : Below o2.heap.size o2 o3 := by rw [ho3]; exact (Below.refl _ _).alloc (Nat.le_refl _) _
  have b7 : BoxN o3 o2.heap.size 34 [.slice pp P.length cp, .slice pt T.length ct] := by rw [ho3]; exact BoxN.new _ _ _ _ rfl
  have hB3 := hB2.trans (hb3.mono hB2.size)
  have b53 := b52.below hb3 b52.lt
  have b33 := b32.below hb3 b32.lt
  have h23 : Below o2.heap.size o2 o3 := hb3
  go_upto_region 4 with fail
  rw [← ho3]
  clear ho3 hb3 b52 b32 hB2
  have k0 := b33.cell 0 rfl
  have k1 := b33.cell 1 rfl
  have k2 := b33.cell 2 rfl
  have k3 := b33.cell 3 rfl
  have j0 := b53.cell 0 rfl
  have j1 := b53.cell 1 rfl
  go_wp2_with fail
  refine (HPL.out o3 (hg.below hB3)).mono ?_
  rintro e o4 ⟨_, rfl, rfl, hb4⟩
  have hlt27 : o2.heap.size < o4.heap.size := Nat.lt_of_lt_of_le b7.lt hb4.size
  have hlt23 : w.heap.size < o4.heap.size := Nat.lt_of_lt_of_le b33.lt hb4.size
  have hlt25 : w.heap.size + 1 < o4.heap.size := Nat.lt_of_lt_of_le b53.lt hb4.size
  have hle0 : w.heap.size ≤ o4.heap.size := Nat.le_of_lt hlt23
  obtain ⟨o5, ho5⟩ : ∃ W, W = o4.alloc (.cells #[.string (RS p.1), .string (RS p.2)] 24) := ⟨_, rfl⟩
  have hb5 : Below o3.heap.size o3 o5 := by rw [ho5]; exact hb4.trans ((Below.refl _ _).alloc hb4.size _)
  have b8 : BoxN o5 o4.heap.size 24 [.string (RS p.1), .string (RS p.2)] := by rw [ho5]; exact BoxN.new _ _ _ _ rfl
  have hB5 := hB3.trans (hb5.mono hB3.size)
  have h25 : Below o2.heap.size o2 o5 := h23.trans (hb5.mono h23.size)
  have b75 := b7.below hb5 b7.lt
  have b35 := b33.below hb5 b33.lt
  have b55 := b53.below hb5 b53.lt
  clear k0 k1 k2 k3 j0 j1 b33 b53
  go_upto_region 5 with fail
  rw [← ho5]
  clear ho5 hb4 hb5 hB3 h23 b7
  have m0 := b75.cell 0 rfl
  have m1 := b75.cell 1 rfl
  have j0 := b8.cell 0 rfl
  have j1 := b8.cell 1 rfl
  go_wp2_with fail
  refine (HCO.out o5 _ _ (RdC.below HPP.out h25) (RdC.below HTT.out h25) (hg.below hB5)).mono ?_
  rintro e o6 ⟨_, rfl, rfl, hb6⟩
  have hB6 := hB5.trans (hb6.mono hB5.size)
  have h26 := h25.trans (hb6.mono h25.size)
  have b76 := b75.below hb6 b75.lt
  have b86 := b8.below hb6 b8.lt
  have b36 := b35.below hb6 b35.lt
  have b56 := b55.below hb6 b55.lt
  clear m0 m1 j0 j1 hb6 b75 b8 b35 b55 hB5 h25
  have m0 := b76.cell 0 rfl
  have m1 := b76.cell 1 rfl
  have j0 := b86.cell 0 rfl
  have j1 := b86.cell 1 rfl
  go_wp2_with fail
  refine (HLO.out o6 _ _ (RdC.below HPP.out h26) (RdC.below HTT.out h26) (hg.below hB6)).mono ?_
  rintro e o7 ⟨_, rfl, ⟨vl, rfl, hl⟩, hb7⟩
  have hB7 := hB6.trans (hb7.mono hB6.size)
  have h27 := h26.trans (hb7.mono h26.size)
  have b77 := b76.below hb7 b76.lt
  have b87 := b86.below hb7 b86.lt
  have b37 := b36.below hb7 b36.lt
  have b57 := b56.below hb7 b56.lt
  have hlt8 := b87.lt
  obtain ⟨pl, cl, rfl⟩ := hl.shape
  clear m0 m1 j0 j1 hb7 b76 b86 b36 b56 hB6 h26
  obtain ⟨o8, ho8⟩ : ∃ W, W = o7.setCell ⟨o4.heap.size, 1, none⟩ (.string ⟨#[49, 47, 49]⟩) := ⟨_, rfl⟩
  have j1 := b87.cell 1 rfl
  have j1f := b87.frozen 1
  go_upto_region 8 with fail
  rw [← ho8]
  have hb8 : Below o4.heap.size o7 o8 := by rw [ho8]; exact (Below.refl _ _).setCell (p := ⟨o4.heap.size, 1, none⟩) (Nat.le_refl _) _
  have b88 : BoxN o8 o4.heap.size 24 [.string (RS p.1), .string ⟨#[49, 47, 49]⟩] := by rw [ho8]; exact b87.set 1 _
  have hl8 : RdI .i64 o8 (.slice pl (locN P T p T.length).length cl) (locN P T p T.length) := by
    rw [ho8]
    refine RdC.set_other hl j1 fun y hy => ?_
    obtain ⟨z, -, rfl⟩ := List.mem_map.1 hy
    exact fun e => by cases e
  have b78 := b77.below hb8 hlt27
  have b38 := b37.below hb8 hlt23
  have b58 := b57.below hb8 hlt25
  have hB8 := hB7.trans (hb8.mono hle0)
  have h28 := h27.trans (hb8.mono (Nat.le_of_lt hlt27))
  clear ho8 hb8 b77 b87 b37 b57 hB7 h27 hl j1 j1f
  have m0 := b78.cell 0 rfl
  have m1 := b78.cell 1 rfl
  have j0 := b88.cell 0 rfl
  have j1 := b88.cell 1 rfl
  go_wp2_with fail
  refine (HCN.out o8 _ _ (RdC.below HPP.out h28) (RdC.below HTT.out h28) (hg.below hB8)).mono ?_
  rintro e o9 ⟨_, rfl, rfl, hb9⟩
  have hB9 := hB8.trans (hb9.mono hB8.size)
  have h29 := h28.trans (hb9.mono h28.size)
  have b79 := b78.below hb9 b78.lt
  have b89 := b88.below hb9 b88.lt
  have b39 := b38.below hb9 b38.lt
  have b59 := b58.below hb9 b58.lt
  have hl9 := RdC.below hl8 hb9
  clear m0 m1 j0 j1 hb9 b78 b88 b38 b58 hB8 h28 hl8
  have m0 := b79.cell 0 rfl
  have m1 := b79.cell 1 rfl
  have j0 := b89.cell 0 rfl
  have j1 := b89.cell 1 rfl
  go_wp2_with fail
  refine (HLN.out o9 _ _ (RdC.below HPP.out h29) (RdC.below HTT.out h29) (hg.below hB9)).mono ?_
  rintro e oa ⟨_, rfl, rfl, hba⟩
  have hBa := hB9.trans (hba.mono hB9.size)
  have h2a := h29.trans (hba.mono h29.size)
  have b7a := b79.below hba b79.lt
  have b8a := b89.below hba b89.lt
  have b3a := b39.below hba b39.lt
  have b5a := b59.below hba b59.lt
  have hla := RdC.below hl9 hba
  clear m0 m1 j0 j1 hba b79 b89 b39 b59 hB9 h29 hl9
  have k0 := b3a.cell 0 rfl
  have k1 := b3a.cell 1 rfl
  have k2 := b3a.cell 2 rfl
  have k3 := b3a.cell 3 rfl
  have j0 := b5a.cell 0 rfl
  have j1 := b5a.cell 1 rfl
  go_wp2_with fail
  refine (HPL.out oa (hg.below hBa)).mono ?_
  rintro e ob ⟨_, rfl, rfl, hbb⟩
  have hBb := hBa.trans (hbb.mono hBa.size)
  have h2b := h2a.trans (hbb.mono h2a.size)
  have b7b := b7a.below hbb b7a.lt
  have b8b := b8a.below hbb b8a.lt
  have hlb := RdC.below hla hbb
  clear k0 k1 k2 k3 j0 j1 hbb b7a b8a b3a b5a hBa h2a hla
  have j0 := b8b.cell 0 rfl
  have j1 := b8b.cell 1 rfl
  have j0f := b8b.frozen 0
  have j1f := b8b.frozen 1
  obtain ⟨oc, hoc⟩ : ∃ W, W = (ob.setCell ⟨o4.heap.size, 0, none⟩ (.string (RS p.1))).setCell ⟨o4.heap.size, 1, none⟩ (.string (RS p.2)) := ⟨_, rfl⟩
  go_upto_region 11 with fail
  rw [← hoc]
  have hbc : Below o4.heap.size ob oc := by rw [hoc]; exact ((Below.refl _ _).setCell (p := ⟨o4.heap.size, 0, none⟩) (Nat.le_refl _) _).setCell (p := ⟨o4.heap.size, 1, none⟩) (Nat.le_refl _) _
  have e8 : BoxN oc o4.heap.size 24 [.string (RS p.1), .string (RS p.2)] := by rw [hoc]; exact (b8b.set 0 _).set 1 _
  have hlc : RdI .i64 oc (.slice pl (locN P T p T.length).length cl) (locN P T p T.length) := by
    rw [hoc]
    refine RdC.set_other (RdC.set_other hlb j0 fun y hy => ?_) ((b8b.set 0 _).cell 1 rfl) fun y hy => ?_
    all_goals
      obtain ⟨z, -, rfl⟩ := List.mem_map.1 hy
      exact fun e => by cases e
  have e7 := b7b.below hbc hlt27
  have hB2 := hBb.trans (hbc.mono hle0)
  have hc2 := h2b.trans (hbc.mono (Nat.le_of_lt hlt27))
  have hC4 := e8.lt
  have HLI := Lib.hid hlc
  clear hoc hbc b7b b8b hlb hBb h2b j0 j1 j0f j1f HCO HLO HCN HLN HMK HPL hlc
  go_wp2_with fail
  go_loopw [15, 16] (fun t15 t16 wr => ∃ (i m : Nat), t16 = .int .i64 i ∧ i ≤ T.length ∧ m ≤ i ∧ Hid ((locN P T p i).length = m) ∧ wr.ownsRow oc.heap.size 3 1 t15 m ((locN P T p i).map fun x => Value.int .i64 x) ∧ Below oc.heap.size oc wr) (fun _ t16 _ => T.length - (RowKit.intOf t16).toNat)
  case atStart => exact ⟨0, 0, rfl, Nat.zero_le _, Nat.le_refl _, rfl, World.ownsRow_nil _ _ _ _, Below.refl _ _⟩
  case round =>
    obtain ⟨i, m, rfl, hin, hmi, HL, hown, hbr⟩ := hrel
    obtain ⟨p7, c7, rfl⟩ := ownsRow_shape hown
    have hzr := hbr.size
    have a0 := (hbr.cell (p := ⟨o2.heap.size, 0, none⟩) e7.lt).trans (e7.cell 0 rfl)
    have a1 := (hbr.cell (p := ⟨o2.heap.size, 1, none⟩) e7.lt).trans (e7.cell 1 rfl)
    rcases Nat.lt_or_ge i T.length with h | h
    · have HST := Lib.hid (locN_step P T p i)
      have HIT : Hid (insideT P T p i = insideB (ptI P T[i].1) (ptI P T[i].2.1) (ptI P T[i].2.2) p) := by unfold Hid insideT; rw [List.getElem?_eq_getElem h]
      have hbW : Below w.heap.size w wr := hB2.trans (hbr.mono hB2.size)
      have hbo : Below o2.heap.size o2 wr := hc2.trans (hbr.mono hc2.size)
      have hbd : Below o2.heap.size o2 wr.drew := hbo.trans ((below_drewN wr 1).mono hbo.size)
      have HC : Hid (∀ w', Below o2.heap.size o2 w' → _) := fun w' hb => HLC.out i h w' _ _ (RdC.below HPP.out hb) (RdC.below HTT.out hb)
      have HI : Hid (∀ w', Good w' → _) := fun w' hg' => HIN.out i h w' hg'
      generalize insideB (ptI P T[i].1) (ptI P T[i].2.1) (ptI P T[i].2.2) p = bi at *
      generalize RS (ptI P T[i].1).1 = q1 at *
      generalize RS (ptI P T[i].1).2 = q2 at *
      generalize RS (ptI P T[i].2.1).1 = q3 at *
      generalize RS (ptI P T[i].2.1).2 = q4 at *
      generalize RS (ptI P T[i].2.2).1 = q5 at *
      generalize RS (ptI P T[i].2.2).2 = q6 at *
      have b0 := (hbr.cell (p := ⟨o4.heap.size, 0, none⟩) e8.lt).trans (e8.cell 0 rfl)
      have b1 := (hbr.cell (p := ⟨o4.heap.size, 1, none⟩) e8.lt).trans (e8.cell 1 rfl)
      have hl7 := e7.lt
      have hl8 := e8.lt
      have hiT : (i : Int) < (T.length : Int) := by omega
      have hgd : Good wr.drew := (hg.below hbW).drewN 1
      go_upto_region 15 with fail
      go_region_held3 (fun w' => w'.cell? ⟨o2.heap.size, 0, none⟩ = some (.slice pp P.length cp) ∧ w'.cell? ⟨o2.heap.size, 1, none⟩ = some (.slice pt T.length ct) ∧ w'.cell? ⟨o4.heap.size, 0, none⟩ = some (.string (RS p.1)) ∧ w'.cell? ⟨o4.heap.size, 1, none⟩ = some (.string (RS p.2)))
        (first | exact ⟨a0, a1, b0, b1⟩ | exact ⟨p_1_0, p_1_1, p_1_2, p_1_3⟩ | exact ⟨p_2_0, p_2_1, p_2_2, p_2_3⟩)
        (first
        | (go_at_call 32; refine (HI.out _ pg1).mono ?_; rintro e pw2 ⟨_, rfl, rfl, pb2⟩
           have p_2_0 := (pb2.cell (p := ⟨o2.heap.size, 0, none⟩) (by show o2.heap.size < pw1.heap.size; omega)).trans p_1_0
           have p_2_1 := (pb2.cell (p := ⟨o2.heap.size, 1, none⟩) (by show o2.heap.size < pw1.heap.size; omega)).trans p_1_1
           have p_2_2 := (pb2.cell (p := ⟨o4.heap.size, 0, none⟩) (by show o4.heap.size < pw1.heap.size; omega)).trans p_1_2
           have p_2_3 := (pb2.cell (p := ⟨o4.heap.size, 1, none⟩) (by show o4.heap.size < pw1.heap.size; omega)).trans p_1_3
           have ps2 : pw1.heap.size ≤ pw2.heap.size := pb2.size
           have pg2 : Good pw2 := pg1.below pb2)
        | (go_at_call 27; refine (HC.out _ hbd).mono ?_; rintro e pw1 ⟨_, rfl, rfl, pb1⟩
           have p_1_0 := (pb1.cell (p := ⟨o2.heap.size, 0, none⟩) (by show o2.heap.size < wr.heap.size; omega)).trans a0
           have p_1_1 := (pb1.cell (p := ⟨o2.heap.size, 1, none⟩) (by show o2.heap.size < wr.heap.size; omega)).trans a1
           have p_1_2 := (pb1.cell (p := ⟨o4.heap.size, 0, none⟩) (by show o4.heap.size < wr.heap.size; omega)).trans b0
           have p_1_3 := (pb1.cell (p := ⟨o4.heap.size, 1, none⟩) (by show o4.heap.size < wr.heap.size; omega)).trans b1
           have ps1 : wr.heap.size ≤ pw1.heap.size := pb1.size
           have pg1 : Good pw1 := hgd.below pb1))
      have pB : Below wr.heap.size wr pw2 := (((below_drewN wr 1).trans (pb1.mono (by show wr.heap.size ≤ wr.heap.size; omega))).trans (pb2.mono (by show wr.heap.size ≤ pw1.heap.size; omega)))
      have hown2 := World.ownsRow.belowAll hown pB
      have hbr2 : Below oc.heap.size oc pw2 := hbr.trans (pB.mono hzr)
      have hz4 := hbr2.size
      have hwo := pB.size
      clear pB pb1 pb2 ps1 ps2 pg1 pg2 p_1_0 p_1_1 p_1_2 p_1_3 p_2_0 p_2_1 p_2_2 p_2_3 a0 a1 b0 b1 hown hbr hgd hbd hbW hbo
      cases bi
      · have HLN : Hid ((locN P T p (i + 1)).length = m) := by unfold Hid; rw [HST.out, HIT.out]; simpa using HL.out
        have HLE : Hid (locN P T p (i + 1) = locN P T p i) := by unfold Hid; rw [HST.out, HIT.out]; simp
        go_wp2_with fail
        go_roundw
        case rel => exact ⟨i + 1, m, by go_num, h, by omega, HLN, by rw [HLE.out]; exact hown2, hbr2⟩
        case measure => simp [RowKit.intOf]; omega
      · have HLN : Hid ((locN P T p (i + 1)).length = m + 1) := by unfold Hid; rw [HST.out, HIT.out]; simpa using HL.out
        have HLE : Hid (locN P T p (i + 1) = locN P T p i ++ [(i : Int)]) := by unfold Hid; rw [HST.out, HIT.out]; simp
        go_wp2_with (at_builtin; refine wpList_append_own _ rfl _ _ 70 rfl oc.heap.size 3 i0 (.int .i64 0) 1 8 Tryz.underlying70 hi hzz0 hzz1 hzz2 rfl (by decide) _ _ _ rfl (hown2.alloc _) ⟨pw2.heap.size, 0, none⟩ 1 1 [.int .i64 i] rfl rfl (cell_one_i64 _ _ _) (one_cell_i64 _) (by unfold maxLen; omega) (by omega) (by simp; omega) ?_
                     intro v3 w3 hown3 hgrow3 _
                     have hzw3 := hgrow3.size
                     have hbr3 : Below oc.heap.size oc w3 := (hbr2.alloc hz4 _).grown hgrow3 (by simp; omega) (fun j hj => by have := (hown2.lt j hj).1; omega)
                     clear hgrow3)
        go_roundw
        case rel => exact ⟨i + 1, m + 1, by go_num, h, by omega, HLN, by rw [HLE.out, List.map_append]; exact hown3, hbr3⟩
        case measure => simp [RowKit.intOf]; omega
    · have hieq : i = T.length := by omega
      have hige : (T.length : Int) ≤ (i : Int) := by omega
      have hbW : Below w.heap.size w wr := hB2.trans (hbr.mono hB2.size)
      have hll := HL.out
      rw [hieq] at hll hown
      have hrd : RdI .i64 wr (.slice p7 m c7) (locN P T p T.length) := by
        have h1 : RdC 1 wr (.slice p7 m c7) m ((locN P T p T.length).map fun x => Value.int .i64 x) := RdC.of_owns hown
        unfold RdI
        rw [hll]
        exact h1
      have hrl : RdI .i64 wr (.slice pl m cl) (locN P T p T.length) := by
        have h1 := RdC.below HLI.out hbr
        rw [hll] at h1
        unfold RdI
        rw [hll]
        exact h1
      have HSA := Lib.hid (same_any wr _ _ _ _ hrl hrd (by rw [hll]; omega) (by rw [hll]; omega))
      rw [decide_eq_true rfl] at HSA
      have hdm : (0 < (locN P T p T.length).length) = (0 < m) := by rw [hll]
      simp only [hll]
      clear hrd hrl hown HL
      rcases Nat.eq_zero_or_pos m with hm0 | hm0
      · subst hm0
        go_wp2_with fail
        refine HSA.out.mono ?_
        rintro e w9 ⟨_, rfl, rfl, nd, rfl⟩
        go_wp2_with fail
        go_ret
        exact ⟨_, rfl, rfl, hbW.trans ((below_drewN wr nd).mono hbW.size)⟩
      · have hm1 : (0 : Int) < (m : Int) := by omega
        rw [decide_eq_true hm0]
        go_wp2_with fail
        refine HSA.out.mono ?_
        rintro e w9 ⟨_, rfl, rfl, nd, rfl⟩
        go_wp2_with fail
        go_ret
        exact ⟨_, rfl, rfl, hbW.trans ((below_drewN wr nd).mono hbW.size)⟩
end Go.Proofs.YtccngnjkehibiaaGreatDoor
