/- klippelaw12.MeshShares returns true. -/
import Derived.Test.YtccngnjkehibiaaGreatDoorM13
namespace Go.Proofs.YtccngnjkehibiaaGreatDoor
open Go.RowKit Go.Lib

theorem shareQ_Sz {c0 c1 c2 p : PtQ} {m : Nat} (z0 : SzP m c0) (z1 : SzP m c1) (z2 : SzP m c2) (zp : SzP m p) (i : Nat) : Sz (16 * m + 10) (shareQ c0 c1 c2 p i) := by
  unfold shareQ
  have hA := areaQ_Sz z0 z1 z2
  split
  · exact ((areaQ_Sz zp z1 z2).div hA (by omega)).mono (by omega)
  · exact ((areaQ_Sz zp z2 z0).div hA (by omega)).mono (by omega)
  · exact ((areaQ_Sz zp z0 z1).div hA (by omega)).mono (by omega)
theorem sum3 (k : Nat) (hk : 0 < k) (hk2 : k ≤ 5000) (a b c s : Rat) (ha : Sz k a) (hb : Sz k b) (hc : Sz k c) (hs : a + b + c = s) (v : Value) (w : World) (hr : RdQ w v [a, b, c]) (hg : Good w) :
    Calls Tryz.prog 29 #[v] w (Ret (fun r _ => r = .string (RS s)) w) := by
  have := ratSum_any [a, b, c] k hk (by simp; omega) (by intro q hq; simp at hq; rcases hq with rfl | rfl | rfl <;> assumption) v w hr hg
  rw [show [a, b, c].foldl (· + ·) 0 = s by simp only [List.foldl_cons, List.foldl_nil]; rw [Rat.zero_add]; exact hs] at this
  exact this

set_option maxHeartbeats 4000000 in
set_option maxRecDepth 100000 in
theorem meshShares_all (w : World) (kz s0 s1 : Int) (half : Bool) (tz x0 x1 : Int) (hk0 : 0 ≤ kz) (hk1 : kz ≤ 255) (hs0 : -128 ≤ s0 ∧ s0 ≤ 127) (hs1 : -128 ≤ s1 ∧ s1 ≤ 127)
    (hx0 : -128 ≤ x0 ∧ x0 ≤ 127) (hx1 : -128 ≤ x1 ∧ x1 ≤ 127) (hg : Good w) :
    Calls Tryz.prog 5 #[.agg #[.int .u8 kz, .int .i8 s0, .int .i8 s1, .bool half], .int .i64 tz, .agg #[.int .i8 x0, .int .i8 x1]] w (Ret (fun r _ => r = .bool true) w) := by
  obtain ⟨k, hk⟩ : ∃ k : Nat, kz.tmod 8 = (k : Int) := ⟨(kz.tmod 8).toNat, by have := Int.tmod_nonneg 8 hk0; omega⟩
  have HMK := Lib.hid fun w hg => make12_any w kz s0 s1 half k hk hk0 hk1 hs0 hs1 hg
  have HPL := Lib.hid fun w hg => place6_any w kz s0 s1 half x0 x1 hs0 hs1 hx0 hx1 hg
  have hM := sheet_ok k s0 s1 half
  obtain ⟨p, hp⟩ : ∃ p : PtQ, p = (placeB 6 s0 half x0, placeB 6 s1 half x1) := ⟨_, rfl⟩
  have zp : SzP 3 p := by rw [hp]; exact ⟨placeB_Sz 6 (by omega) (by omega) _ _ _ hx0, placeB_Sz 6 (by omega) (by omega) _ _ _ hx1⟩
  rw [show placeB 6 s0 half x0 = p.1 by rw [hp], show placeB 6 s1 half x1 = p.2 by rw [hp]] at HPL
  generalize sheetP k s0 s1 half = P at *
  generalize shapeT k = T at *
  have HM := Lib.hid hM
  have HZP := Lib.hid zp
  have eqW : ∀ w : World, Sem.run Tryz.prog (Op.equalIn 10000 63 (.agg #[.string ⟨#[]⟩, .string ⟨#[]⟩, .string ⟨#[]⟩]) (.agg #[.string ⟨#[]⟩, .string ⟨#[]⟩, .string ⟨#[]⟩])) w = .ok true w := fun w => by kernel_rfl
  clear hk hk0 hk1 hs0 hs1 hx0 hx1 hM zp hp
  rcases (by omega : (tz < 0 ∨ (T.length : Int) ≤ tz) ∨ (0 ≤ tz ∧ tz < (T.length : Int))) with htz | htz
  · have HTZ := Lib.hid htz
    have HPX : Hid ((tz < 0) ∨ (¬ tz < 0 ∧ (T.length : Int) ≤ tz)) := by unfold Hid; omega
    clear htz
    go_enter Tryz.func5, Tryz.ntmps5
    go_wp2_with fail
    obtain ⟨W, hW⟩ : ∃ W, W = (w.alloc (.cells #[.int .u8 kz, .int .i8 s0, .int .i8 s1, .bool half] 49)).alloc (.cells #[.int .i8 x0, .int .i8 x1] 47) := ⟨_, rfl⟩
    have hB : Below w.heap.size w W := by rw [hW]; exact ((Below.refl _ _).alloc (Nat.le_refl _) _).alloc (by simp) _
    have b5 : BoxN W (w.heap.size + 1) 47 [.int .i8 x0, .int .i8 x1] := by rw [hW]; exact BoxN.new _ _ _ _ (by simp)
    have b3 : BoxN W w.heap.size 49 [.int .u8 kz, .int .i8 s0, .int .i8 s1, .bool half] := by
      rw [hW]
      have h1 := (BoxN.new w #[.int .u8 kz, .int .i8 s0, .int .i8 s1, .bool half] 49 _ rfl)
      exact h1.below ((Below.refl _ _).alloc (Nat.le_refl _) _) h1.lt
    rw [← hW]
    clear hW
    refine (known12_any W (hg.below hB)).mono ?_
    rintro e o1 ⟨_, rfl, rfl, hb1⟩
    have hB1 := hB.trans (hb1.mono hB.size)
    have b51 := b5.below hb1 b5.lt
    have b31 := b3.below hb1 b3.lt
    clear hb1 hB b5 b3
    have k0 := b31.cell 0 rfl
    have k1 := b31.cell 1 rfl
    have k2 := b31.cell 2 rfl
    have k3 := b31.cell 3 rfl
    go_wp2_with fail
    refine (HMK.out o1 (hg.below hB1)).mono ?_
    rintro e o2 ⟨_, rfl, ⟨vp, vt, rfl, hp, ht⟩, hb2⟩
    have hB2 := hB1.trans (hb2.mono hB1.size)
    have b52 := b51.below hb2 b51.lt
    have b32 := b31.below hb2 b31.lt
    obtain ⟨pp, cp, rfl, -, -, -⟩ := hp.open
    obtain ⟨pt, ct, rfl, -, -, -⟩ := ht.open
    rw [strP_length] at *
    have HPP := Lib.hid hp
    have HTT := Lib.hid ht
    clear hb2 hB1 b51 b31 hp ht k0 k1 k2 k3
    obtain ⟨o3, ho3⟩ : ∃ W, W = o2.alloc (.cells #[.slice pp P.length cp, .slice pt T.length ct] 34) := ⟨_, rfl⟩
    have hb3 : Below o2.heap.size o2 o3 := by rw [ho3]; exact (Below.refl _ _).alloc (Nat.le_refl _) _
    have b7 : BoxN o3 o2.heap.size 34 [.slice pp P.length cp, .slice pt T.length ct] := by rw [ho3]; exact BoxN.new _ _ _ _ rfl
    have hB3 := hB2.trans (hb3.mono hB2.size)
    have b53 := b52.below hb3 b52.lt
    have b33 := b32.below hb3 b32.lt
    have h23 : Below o2.heap.size o2 o3 := hb3
    go_upto_region 4 with fail
    rw [← ho3]
    clear ho3 hb3 b52 b32 hB2
    have k0 := b33.cell 0 rfl
    have k1 := b33.cell 1 rfl
    have k2 := b33.cell 2 rfl
    have k3 := b33.cell 3 rfl
    have j0 := b53.cell 0 rfl
    have j1 := b53.cell 1 rfl
    go_wp2_with fail
    refine (HPL.out o3 (hg.below hB3)).mono ?_
    rintro e o4 ⟨_, rfl, rfl, hb4⟩
    obtain ⟨o5, ho5⟩ : ∃ W, W = o4.alloc (.cells #[.string (RS p.1), .string (RS p.2)] 24) := ⟨_, rfl⟩
    have hb5 : Below o3.heap.size o3 o5 := by rw [ho5]; exact hb4.trans ((Below.refl _ _).alloc hb4.size _)
    have b8 : BoxN o5 o4.heap.size 24 [.string (RS p.1), .string (RS p.2)] := by rw [ho5]; exact BoxN.new _ _ _ _ rfl
    have hB5 := hB3.trans (hb5.mono hB3.size)
    have h25 : Below o2.heap.size o2 o5 := h23.trans (hb5.mono h23.size)
    have b75 := b7.below hb5 b7.lt
    clear k0 k1 k2 k3 j0 j1 b33 b53
    go_upto_region 5 with fail
    rw [← ho5]
    clear ho5 hb4 hb5 hB3 h23 b7
    have m0 := b75.cell 0 rfl
    have m1 := b75.cell 1 rfl
    have j0 := b8.cell 0 rfl
    have j1 := b8.cell 1 rfl
    go_wp2_with fail
    refine (shares_range o5 _ _ P T 2 (RdC.below HPP.out h25) (RdC.below HTT.out h25) HM.out tz HTZ.out (RS p.1) (RS p.2) (hg.below hB5)).mono ?_
    rintro e o6 ⟨_, rfl, rfl, hb6⟩
    have b76 := b75.below hb6 b75.lt
    have hB6 := hB5.trans (hb6.mono hB5.size)
    clear m0 m1 j0 j1
    have m1 := b76.cell 1 rfl
    have m1a := cell_alloc_l (.cells #[.string ⟨#[]⟩, .string ⟨#[]⟩, .string ⟨#[]⟩] 63) m1
    have hl7 := b76.lt
    have hBa : Below w.heap.size w (o6.alloc (.cells #[.string ⟨#[]⟩, .string ⟨#[]⟩, .string ⟨#[]⟩] 63)) := hB6.alloc hB6.size _
    clear hb6 b75 b8 h25 HPP HTT hB5
    rcases HPX.out with h1 | ⟨h1, h2⟩
    all_goals
      go_wp2_with fail
      go_ret
      exact ⟨_, rfl, rfl, hBa⟩
  · obtain ⟨t, rfl⟩ : ∃ t : Nat, tz = (t : Int) := ⟨tz.toNat, by omega⟩
    have htl : t < T.length := by omega
    have HTL := Lib.hid htl
    obtain ⟨tr, htr⟩ : ∃ tr, tr = T[t] := ⟨_, rfl⟩
    have HTR := Lib.hid htr
    have hmem : tr ∈ T := by rw [htr]; exact List.getElem_mem htl
    obtain ⟨z0, z1, z2⟩ := ptI_SzP HM.out hmem
    have hpos := areaQ_pos HM.out hmem
    have hA0 : areaQ (ptI P tr.1) (ptI P tr.2.1) (ptI P tr.2.2) ≠ 0 := by intro e; rw [e] at hpos; exact absurd hpos (Rat.lt_irrefl)
    have HSH : Hid (∀ (w : World) (vp vt : Value), RdP w vp (strP P) → RdT w vt T → Good w → _) := fun w vp vt hp ht hg => shares_ok w vp vt P T 2 3 hp ht HM.out (by omega) (by omega) t htl tr htr p HZP.out hg
    have HLC : Hid (∀ (w : World) (vp vt : Value), RdP w vp (strP P) → RdT w vt T → _) := fun w vp vt hp ht => lcorners_any w vp vt P T 2 hp ht HM.out.toMeshIn t (t : Int) rfl htl tr htr
    have e1 := share_one (ptI P tr.1) (ptI P tr.2.1) (ptI P tr.2.2) p hA0
    obtain ⟨e2, e3⟩ := share_place (ptI P tr.1) (ptI P tr.2.1) (ptI P tr.2.2) p hA0
    have y0 : SzP 3 (ptI P tr.1) := ⟨z0.1.mono (by omega), z0.2.mono (by omega)⟩
    have y1 : SzP 3 (ptI P tr.2.1) := ⟨z1.1.mono (by omega), z1.2.mono (by omega)⟩
    have y2 : SzP 3 (ptI P tr.2.2) := ⟨z2.1.mono (by omega), z2.2.mono (by omega)⟩
    have q0 := shareQ_Sz y0 y1 y2 HZP.out 0
    have q1 := shareQ_Sz y0 y1 y2 HZP.out 1
    have q2 := shareQ_Sz y0 y1 y2 HZP.out 2
    generalize shareQ (ptI P tr.1) (ptI P tr.2.1) (ptI P tr.2.2) p 0 = w0 at *
    generalize shareQ (ptI P tr.1) (ptI P tr.2.1) (ptI P tr.2.2) p 1 = w1 at *
    generalize shareQ (ptI P tr.1) (ptI P tr.2.1) (ptI P tr.2.2) p 2 = w2 at *
    generalize ptI P tr.1 = c0 at *
    generalize ptI P tr.2.1 = c1 at *
    generalize ptI P tr.2.2 = c2 at *
    have HQ0 := Lib.hid q0
    have HQ1 := Lib.hid q1
    have HQ2 := Lib.hid q2
    have HS1 : Hid (∀ (v : Value) (w : World), RdQ w v [w0, w1, w2] → Good w → _) := fun v w hr hg => sum3 58 (by omega) (by omega) w0 w1 w2 1 HQ0.out HQ1.out HQ2.out e1 v w hr hg
    have HSX : Hid (∀ (v : Value) (w : World), RdQ w v [w0 * c0.1, w1 * c1.1, w2 * c2.1] → Good w → _) := fun v w hr hg => sum3 61 (by omega) (by omega) (w0 * c0.1) (w1 * c1.1) (w2 * c2.1) p.1 (HQ0.out.mul y0.1) (HQ1.out.mul y1.1) (HQ2.out.mul y2.1) e2 v w hr hg
    have HSY : Hid (∀ (v : Value) (w : World), RdQ w v [w0 * c0.2, w1 * c1.2, w2 * c2.2] → Good w → _) := fun v w hr hg => sum3 61 (by omega) (by omega) (w0 * c0.2) (w1 * c1.2) (w2 * c2.2) p.2 (HQ0.out.mul y0.2) (HQ1.out.mul y1.2) (HQ2.out.mul y2.2) e3 v w hr hg
    have HX0 : Hid (∀ w, Good w → _) := fun w hg => ratMul_any w0 c0.1 58 (by omega) (by omega) HQ0.out (y0.1.mono (by omega)) w hg
    have HX1 : Hid (∀ w, Good w → _) := fun w hg => ratMul_any w1 c1.1 58 (by omega) (by omega) HQ1.out (y1.1.mono (by omega)) w hg
    have HX2 : Hid (∀ w, Good w → _) := fun w hg => ratMul_any w2 c2.1 58 (by omega) (by omega) HQ2.out (y2.1.mono (by omega)) w hg
    have HY0 : Hid (∀ w, Good w → _) := fun w hg => ratMul_any w0 c0.2 58 (by omega) (by omega) HQ0.out (y0.2.mono (by omega)) w hg
    have HY1 : Hid (∀ w, Good w → _) := fun w hg => ratMul_any w1 c1.2 58 (by omega) (by omega) HQ1.out (y1.2.mono (by omega)) w hg
    have HY2 : Hid (∀ w, Good w → _) := fun w hg => ratMul_any w2 c2.2 58 (by omega) (by omega) HQ2.out (y2.2.mono (by omega)) w hg
    have htz2 : (t : Int) < (T.length : Int) := by omega
    clear hmem z0 z1 z2 hpos hA0 e1 e2 e3 y0 y1 y2 q0 q1 q2 htr htl htz
    go_enter Tryz.func5, Tryz.ntmps5
    go_wp2_with fail
    obtain ⟨W, hW⟩ : ∃ W, W = (w.alloc (.cells #[.int .u8 kz, .int .i8 s0, .int .i8 s1, .bool half] 49)).alloc (.cells #[.int .i8 x0, .int .i8 x1] 47) := ⟨_, rfl⟩
    have hB : Below w.heap.size w W := by rw [hW]; exact ((Below.refl _ _).alloc (Nat.le_refl _) _).alloc (by simp) _
    have b5 : BoxN W (w.heap.size + 1) 47 [.int .i8 x0, .int .i8 x1] := by rw [hW]; exact BoxN.new _ _ _ _ (by simp)
    have b3 : BoxN W w.heap.size 49 [.int .u8 kz, .int .i8 s0, .int .i8 s1, .bool half] := by
      rw [hW]
      have h1 := (BoxN.new w #[.int .u8 kz, .int .i8 s0, .int .i8 s1, .bool half] 49 _ rfl)
      exact h1.below ((Below.refl _ _).alloc (Nat.le_refl _) _) h1.lt
    rw [← hW]
    clear hW
    refine (known12_any W (hg.below hB)).mono ?_
    rintro e o1 ⟨_, rfl, rfl, hb1⟩
    have hB1 := hB.trans (hb1.mono hB.size)
    have b51 := b5.below hb1 b5.lt
    have b31 := b3.below hb1 b3.lt
    clear hb1 hB b5 b3
    have k0 := b31.cell 0 rfl
    have k1 := b31.cell 1 rfl
    have k2 := b31.cell 2 rfl
    have k3 := b31.cell 3 rfl
    go_wp2_with fail
    refine (HMK.out o1 (hg.below hB1)).mono ?_
    rintro e o2 ⟨_, rfl, ⟨vp, vt, rfl, hp, ht⟩, hb2⟩
    have hB2 := hB1.trans (hb2.mono hB1.size)
    have b52 := b51.below hb2 b51.lt
    have b32 := b31.below hb2 b31.lt
    obtain ⟨pp, cp, rfl, -, -, -⟩ := hp.open
    obtain ⟨pt, ct, rfl, -, -, -⟩ := ht.open
    rw [strP_length] at *
    have HPP := Lib.hid hp
    have HTT := Lib.hid ht
    clear hb2 hB1 b51 b31 hp ht k0 k1 k2 k3
    obtain ⟨o3, ho3⟩ : ∃ W, W = o2.alloc (.cells #[.slice pp P.length cp, .slice pt T.length ct] 34) := ⟨_, rfl⟩
    have hb3 : Below o2.heap.size o2 o3 := by rw [ho3]; exact (Below.refl _ _).alloc (Nat.le_refl _) _
    have b7 : BoxN o3 o2.heap.size 34 [.slice pp P.length cp, .slice pt T.length ct] := by rw [ho3]; exact BoxN.new _ _ _ _ rfl
    have hB3 := hB2.trans (hb3.mono hB2.size)
    have b53 := b52.below hb3 b52.lt
    have b33 := b32.below hb3 b32.lt
    have h23 : Below o2.heap.size o2 o3 := hb3
    go_upto_region 4 with fail
    rw [← ho3]
    clear ho3 hb3 b52 b32 hB2
    have k0 := b33.cell 0 rfl
    have k1 := b33.cell 1 rfl
    have k2 := b33.cell 2 rfl
    have k3 := b33.cell 3 rfl
    have j0 := b53.cell 0 rfl
    have j1 := b53.cell 1 rfl
    go_wp2_with fail
    refine (HPL.out o3 (hg.below hB3)).mono ?_
    rintro e o4 ⟨_, rfl, rfl, hb4⟩
    obtain ⟨o5, ho5⟩ : ∃ W, W = o4.alloc (.cells #[.string (RS p.1), .string (RS p.2)] 24) := ⟨_, rfl⟩
    have hb5 : Below o3.heap.size o3 o5 := by rw [ho5]; exact hb4.trans ((Below.refl _ _).alloc hb4.size _)
    have b8 : BoxN o5 o4.heap.size 24 [.string (RS p.1), .string (RS p.2)] := by rw [ho5]; exact BoxN.new _ _ _ _ rfl
    have hB5 := hB3.trans (hb5.mono hB3.size)
    have h25 : Below o2.heap.size o2 o5 := h23.trans (hb5.mono h23.size)
    have b75 := b7.below hb5 b7.lt
    clear k0 k1 k2 k3 j0 j1 b33 b53
    go_upto_region 5 with fail
    rw [← ho5]
    clear ho5 hb4 hb5 hB3 h23 b7
    have m0 := b75.cell 0 rfl
    have m1 := b75.cell 1 rfl
    have j0 := b8.cell 0 rfl
    have j1 := b8.cell 1 rfl
    go_wp2_with fail
    refine (HSH.out o5 _ _ (RdC.below HPP.out h25) (RdC.below HTT.out h25) (hg.below hB5)).mono ?_
    rintro e o6 ⟨_, rfl, rfl, hb6⟩
    obtain ⟨o7, ho7⟩ : ∃ W, W = o6.alloc (.cells #[.string (RS w0), .string (RS w1), .string (RS w2)] 63) := ⟨_, rfl⟩
    have hb7 : Below o5.heap.size o5 o7 := by rw [ho7]; exact hb6.trans ((Below.refl _ _).alloc hb6.size _)
    have b9 : BoxN o7 o6.heap.size 63 [.string (RS w0), .string (RS w1), .string (RS w2)] := by rw [ho7]; exact BoxN.new _ _ _ _ rfl
    have hB7 := hB5.trans (hb7.mono hB5.size)
    have h27 : Below o2.heap.size o2 o7 := h25.trans (hb7.mono h25.size)
    have b77 := b75.below hb7 b75.lt
    have b87 := b8.below hb7 b8.lt
    clear m0 m1 j0 j1
    go_upto_region 6 with fail
    rw [← ho7]
    clear ho7 hb6 hb7 hB5 h25 b75 b8
    have m0 := b77.cell 0 rfl
    have m1 := b77.cell 1 rfl
    go_wp2_with fail
    refine (shares_number o7 _ _ P T 2 (RdC.below HPP.out h27) (RdC.below HTT.out h27) HM.out t HTL.out ⟨#[48]⟩ ⟨#[48, 48]⟩ (by decide) (by decide) (by decide +kernel) (hg.below hB7)).mono ?_
    rintro e o8 ⟨_, rfl, rfl, hb8⟩
    obtain ⟨o9, ho9⟩ : ∃ W, W = o8.alloc (.cells #[.string ⟨#[]⟩, .string ⟨#[]⟩, .string ⟨#[]⟩] 63) := ⟨_, rfl⟩
    have hb9 : Below o7.heap.size o7 o9 := by rw [ho9]; exact hb8.trans ((Below.refl _ _).alloc hb8.size _)
    have b11 : BoxN o9 o8.heap.size 63 [.string ⟨#[]⟩, .string ⟨#[]⟩, .string ⟨#[]⟩] := by rw [ho9]; exact BoxN.new _ _ _ _ rfl
    have hB9 := hB7.trans (hb9.mono hB7.size)
    have h29 : Below o2.heap.size o2 o9 := h27.trans (hb9.mono h27.size)
    have b79 := b77.below hb9 b77.lt
    have b89 := b87.below hb9 b87.lt
    have b99 := b9.below hb9 b9.lt
    clear m0 m1
    go_upto_region 9 with fail
    rw [← ho9]
    clear ho9 hb8 hb9 hB7 h27 b77 b87 b9
    have m0 := b79.cell 0 rfl
    have m1 := b79.cell 1 rfl
    go_wp2_with fail
    refine (HLC.out o9 _ _ (RdC.below HPP.out h29) (RdC.below HTT.out h29)).mono ?_
    rintro e v1 ⟨_, rfl, rfl, hb10⟩
    obtain ⟨v2, hv2⟩ : ∃ W, W = v1.alloc (.cells #[.string (RS c0.1), .string (RS c0.2), .string (RS c1.1), .string (RS c1.2), .string (RS c2.1), .string (RS c2.2)] 57) := ⟨_, rfl⟩
    have hb11 : Below o9.heap.size o9 v2 := by rw [hv2]; exact hb10.trans ((Below.refl _ _).alloc hb10.size _)
    have b13 : BoxN v2 v1.heap.size 57 [.string (RS c0.1), .string (RS c0.2), .string (RS c1.1), .string (RS c1.2), .string (RS c2.1), .string (RS c2.2)] := by rw [hv2]; exact BoxN.new _ _ _ _ rfl
    have hB11 := hB9.trans (hb11.mono hB9.size)
    have b8' := b89.below hb11 b89.lt
    have b9' := b99.below hb11 b99.lt
    have b11' := b11.below hb11 b11.lt
    clear m0 m1
    go_upto_region 10 with fail
    rw [← hv2]
    clear hv2 hb10 hb11 hB9 h29 b79 b89 b99 b11 HPP HTT HSH HLC HMK HPL
    have HCK : Hid (∀ i : Nat, i < 3 → ∃ q : Rat, Sz 200 q ∧ [Value.string (RS w0), .string (RS w1), .string (RS w2)][i]? = some (.string (RS q))) := fun i hi => by
      rcases (by omega : i = 0 ∨ i = 1 ∨ i = 2) with rfl | rfl | rfl
      · exact ⟨w0, HQ0.out.mono (by omega), rfl⟩
      · exact ⟨w1, HQ1.out.mono (by omega), rfl⟩
      · exact ⟨w2, HQ2.out.mono (by omega), rfl⟩
    go_wp2_with fail
    go_loopw [14] (fun t14 wr => ∃ i : Nat, t14 = .int .i64 i ∧ i ≤ 3 ∧ Below v2.heap.size v2 wr) (fun t14 _ => 3 - (RowKit.intOf t14).toNat)
    case atStart => exact ⟨0, rfl, by omega, Below.refl _ _⟩
    case round =>
      obtain ⟨i, rfl, hi3, hbr⟩ := hrel
      have hBr := hB11.trans (hbr.mono hB11.size)
      have b9r := b9'.below hbr b9'.lt
      rcases Nat.lt_or_ge i 3 with h | h
      · obtain ⟨q, zq, hq⟩ := HCK.out i h
        have d0 := b9r.cell i hq
        have hiz : (i : Int) < 3 := by omega
        clear hq
        go_wp2_with fail
        refine (ratChk_ok q zq wr (hg.below hBr)).mono ?_
        rintro e v3 ⟨_, rfl, rfl, hb3⟩
        have hbr3 := hbr.trans (hb3.mono hbr.size)
        clear hb3
        go_wp2_with fail
        go_roundw
        case rel => exact ⟨i + 1, by go_num, by omega, hbr3⟩
        case measure =>
          show 3 - ((i : Int) + 1).toNat < 3 - (i : Int).toNat
          omega
      · have hige : (3 : Int) ≤ (i : Int) := by omega
        obtain ⟨v3, hv3⟩ : ∃ v3 : World, v3 = wr := ⟨_, rfl⟩
        subst hv3
        have b13r := b13.below hbr b13.lt
        have b8r := b8'.below hbr b8'.lt
        have b11r := b11'.below hbr b11'.lt
        have d0 := b9r.cell 0 rfl
        have d1 := b9r.cell 1 rfl
        have d2 := b9r.cell 2 rfl
        have f0 := b13r.cell 0 rfl
        have f1 := b13r.cell 1 rfl
        have f2 := b13r.cell 2 rfl
        have f3 := b13r.cell 3 rfl
        have f4 := b13r.cell 4 rfl
        have f5 := b13r.cell 5 rfl
        have hl9 := b9r.lt
        have hl13 := b13r.lt
        have hgd : Good v3.drew := (hg.below hBr).drewN 1
        go_upto_region 15 with fail
        go_region_held3 (fun w' => w'.cell? ⟨o6.heap.size, 0, none⟩ = some (.string (RS w0)) ∧ w'.cell? ⟨o6.heap.size, 1, none⟩ = some (.string (RS w1)) ∧ w'.cell? ⟨o6.heap.size, 2, none⟩ = some (.string (RS w2)) ∧ w'.cell? ⟨v1.heap.size, 0, none⟩ = some (.string (RS c0.1)) ∧ w'.cell? ⟨v1.heap.size, 2, none⟩ = some (.string (RS c1.1)) ∧ w'.cell? ⟨v1.heap.size, 4, none⟩ = some (.string (RS c2.1)))
          (first | with_reducible exact ⟨d0, d1, d2, f0, f2, f4⟩ | with_reducible exact ⟨p_1_0, p_1_1, p_1_2, p_1_3, p_1_4, p_1_5⟩ | with_reducible exact ⟨p_2_0, p_2_1, p_2_2, p_2_3, p_2_4, p_2_5⟩ | with_reducible exact ⟨p_3_0, p_3_1, p_3_2, p_3_3, p_3_4, p_3_5⟩ | with_reducible exact ⟨(cell_alloc_l _ p_3_0), (cell_alloc_l _ p_3_1), (cell_alloc_l _ p_3_2), (cell_alloc_l _ p_3_3), (cell_alloc_l _ p_3_4), (cell_alloc_l _ p_3_5)⟩ | with_reducible exact ⟨p_4_0, p_4_1, p_4_2, p_4_3, p_4_4, p_4_5⟩ | exact ⟨d0, d1, d2, f0, f2, f4⟩ | exact ⟨p_1_0, p_1_1, p_1_2, p_1_3, p_1_4, p_1_5⟩ | exact ⟨p_2_0, p_2_1, p_2_2, p_2_3, p_2_4, p_2_5⟩ | exact ⟨p_3_0, p_3_1, p_3_2, p_3_3, p_3_4, p_3_5⟩ | exact ⟨(cell_alloc_l _ p_3_0), (cell_alloc_l _ p_3_1), (cell_alloc_l _ p_3_2), (cell_alloc_l _ p_3_3), (cell_alloc_l _ p_3_4), (cell_alloc_l _ p_3_5)⟩ | exact ⟨p_4_0, p_4_1, p_4_2, p_4_3, p_4_4, p_4_5⟩)
          (first
          | (go_at_call 29; refine (HSX.out _ _ (RdQ.fresh pw3 [w0 * c0.1, w1 * c1.1, w2 * c2.1] _ _ rfl (by simp) 3 rfl _ rfl) (pg3.alloc _)).mono ?_; rintro e pw4 ⟨_, rfl, rfl, pb4_⟩
             have pb4 : Below pw3.heap.size pw3 pw4 := ((Below.refl _ _).alloc (Nat.le_refl _) _).trans (pb4_.mono (by simp))
             have p_4_0 := (pb4.cell (p := ⟨o6.heap.size, 0, none⟩) (by show o6.heap.size < pw3.heap.size; omega)).trans p_3_0
             have p_4_1 := (pb4.cell (p := ⟨o6.heap.size, 1, none⟩) (by show o6.heap.size < pw3.heap.size; omega)).trans p_3_1
             have p_4_2 := (pb4.cell (p := ⟨o6.heap.size, 2, none⟩) (by show o6.heap.size < pw3.heap.size; omega)).trans p_3_2
             have p_4_3 := (pb4.cell (p := ⟨v1.heap.size, 0, none⟩) (by show v1.heap.size < pw3.heap.size; omega)).trans p_3_3
             have p_4_4 := (pb4.cell (p := ⟨v1.heap.size, 2, none⟩) (by show v1.heap.size < pw3.heap.size; omega)).trans p_3_4
             have p_4_5 := (pb4.cell (p := ⟨v1.heap.size, 4, none⟩) (by show v1.heap.size < pw3.heap.size; omega)).trans p_3_5
             have ps4 : pw3.heap.size ≤ pw4.heap.size := pb4.size
             have pg4 : Good pw4 := pg3.below pb4)
          | (go_at_call 19; refine (HX2.out _ pg2).mono ?_; rintro e pw3 ⟨_, rfl, rfl, pb3⟩
             have p_3_0 := (pb3.cell (p := ⟨o6.heap.size, 0, none⟩) (by show o6.heap.size < pw2.heap.size; omega)).trans p_2_0
             have p_3_1 := (pb3.cell (p := ⟨o6.heap.size, 1, none⟩) (by show o6.heap.size < pw2.heap.size; omega)).trans p_2_1
             have p_3_2 := (pb3.cell (p := ⟨o6.heap.size, 2, none⟩) (by show o6.heap.size < pw2.heap.size; omega)).trans p_2_2
             have p_3_3 := (pb3.cell (p := ⟨v1.heap.size, 0, none⟩) (by show v1.heap.size < pw2.heap.size; omega)).trans p_2_3
             have p_3_4 := (pb3.cell (p := ⟨v1.heap.size, 2, none⟩) (by show v1.heap.size < pw2.heap.size; omega)).trans p_2_4
             have p_3_5 := (pb3.cell (p := ⟨v1.heap.size, 4, none⟩) (by show v1.heap.size < pw2.heap.size; omega)).trans p_2_5
             have ps3 : pw2.heap.size ≤ pw3.heap.size := pb3.size
             have pg3 : Good pw3 := pg2.below pb3)
          | (go_at_call 19; refine (HX1.out _ pg1).mono ?_; rintro e pw2 ⟨_, rfl, rfl, pb2⟩
             have p_2_0 := (pb2.cell (p := ⟨o6.heap.size, 0, none⟩) (by show o6.heap.size < pw1.heap.size; omega)).trans p_1_0
             have p_2_1 := (pb2.cell (p := ⟨o6.heap.size, 1, none⟩) (by show o6.heap.size < pw1.heap.size; omega)).trans p_1_1
             have p_2_2 := (pb2.cell (p := ⟨o6.heap.size, 2, none⟩) (by show o6.heap.size < pw1.heap.size; omega)).trans p_1_2
             have p_2_3 := (pb2.cell (p := ⟨v1.heap.size, 0, none⟩) (by show v1.heap.size < pw1.heap.size; omega)).trans p_1_3
             have p_2_4 := (pb2.cell (p := ⟨v1.heap.size, 2, none⟩) (by show v1.heap.size < pw1.heap.size; omega)).trans p_1_4
             have p_2_5 := (pb2.cell (p := ⟨v1.heap.size, 4, none⟩) (by show v1.heap.size < pw1.heap.size; omega)).trans p_1_5
             have ps2 : pw1.heap.size ≤ pw2.heap.size := pb2.size
             have pg2 : Good pw2 := pg1.below pb2)
          | (go_at_call 19; refine (HX0.out _ hgd).mono ?_; rintro e pw1 ⟨_, rfl, rfl, pb1⟩
             have p_1_0 := (pb1.cell (p := ⟨o6.heap.size, 0, none⟩) (by show o6.heap.size < v3.heap.size; omega)).trans d0
             have p_1_1 := (pb1.cell (p := ⟨o6.heap.size, 1, none⟩) (by show o6.heap.size < v3.heap.size; omega)).trans d1
             have p_1_2 := (pb1.cell (p := ⟨o6.heap.size, 2, none⟩) (by show o6.heap.size < v3.heap.size; omega)).trans d2
             have p_1_3 := (pb1.cell (p := ⟨v1.heap.size, 0, none⟩) (by show v1.heap.size < v3.heap.size; omega)).trans f0
             have p_1_4 := (pb1.cell (p := ⟨v1.heap.size, 2, none⟩) (by show v1.heap.size < v3.heap.size; omega)).trans f2
             have p_1_5 := (pb1.cell (p := ⟨v1.heap.size, 4, none⟩) (by show v1.heap.size < v3.heap.size; omega)).trans f4
             have ps1 : v3.heap.size ≤ pw1.heap.size := pb1.size
             have pg1 : Good pw1 := hgd.below pb1))
        have pB : Below v3.heap.size v3 pw4 := (((((below_drewN v3 1).trans (pb1.mono (by show v3.heap.size ≤ v3.heap.size; omega))).trans (pb2.mono (by show v3.heap.size ≤ pw1.heap.size; omega))).trans (pb3.mono (by show v3.heap.size ≤ pw2.heap.size; omega))).trans (pb4.mono (by show v3.heap.size ≤ pw3.heap.size; omega)))
        have b9q := b9r.below pB b9r.lt
        have b13q := b13r.below pB b13r.lt
        have b8q := b8r.below pB b8r.lt
        have b11q := b11r.below pB b11r.lt
        have hBq := hBr.trans (pB.mono hBr.size)
        have hgd4 : Good pw4.drew := pg4.drewN 1
        clear d0 d1 d2 f0 f1 f2 f3 f4 f5 hl9 hl13 b9r b13r b8r b11r pB HSX HX0 HX1 HX2 p_1_0 p_1_1 p_1_2 p_1_3 p_1_4 p_1_5 p_2_0 p_2_1 p_2_2 p_2_3 p_2_4 p_2_5 p_3_0 p_3_1 p_3_2 p_3_3 p_3_4 p_3_5 p_4_0 p_4_1 p_4_2 p_4_3 p_4_4 p_4_5 pb1 pb2 pb3 pb4 pb4_ pg1 pg2 pg3
        have d0 := b9q.cell 0 rfl
        have d1 := b9q.cell 1 rfl
        have d2 := b9q.cell 2 rfl
        have f0 := b13q.cell 1 rfl
        have f1 := b13q.cell 3 rfl
        have f2 := b13q.cell 5 rfl
        have hl9 := b9q.lt
        have hl13 := b13q.lt
        go_upto_region 16 with fail
        go_region_held3 (fun w' => w'.cell? ⟨o6.heap.size, 0, none⟩ = some (.string (RS w0)) ∧ w'.cell? ⟨o6.heap.size, 1, none⟩ = some (.string (RS w1)) ∧ w'.cell? ⟨o6.heap.size, 2, none⟩ = some (.string (RS w2)) ∧ w'.cell? ⟨v1.heap.size, 1, none⟩ = some (.string (RS c0.2)) ∧ w'.cell? ⟨v1.heap.size, 3, none⟩ = some (.string (RS c1.2)) ∧ w'.cell? ⟨v1.heap.size, 5, none⟩ = some (.string (RS c2.2)))
          (first | with_reducible exact ⟨d0, d1, d2, f0, f1, f2⟩ | with_reducible exact ⟨q_1_0, q_1_1, q_1_2, q_1_3, q_1_4, q_1_5⟩ | with_reducible exact ⟨q_2_0, q_2_1, q_2_2, q_2_3, q_2_4, q_2_5⟩ | with_reducible exact ⟨q_3_0, q_3_1, q_3_2, q_3_3, q_3_4, q_3_5⟩ | with_reducible exact ⟨(cell_alloc_l _ q_3_0), (cell_alloc_l _ q_3_1), (cell_alloc_l _ q_3_2), (cell_alloc_l _ q_3_3), (cell_alloc_l _ q_3_4), (cell_alloc_l _ q_3_5)⟩ | with_reducible exact ⟨q_4_0, q_4_1, q_4_2, q_4_3, q_4_4, q_4_5⟩ | exact ⟨d0, d1, d2, f0, f1, f2⟩ | exact ⟨q_1_0, q_1_1, q_1_2, q_1_3, q_1_4, q_1_5⟩ | exact ⟨q_2_0, q_2_1, q_2_2, q_2_3, q_2_4, q_2_5⟩ | exact ⟨q_3_0, q_3_1, q_3_2, q_3_3, q_3_4, q_3_5⟩ | exact ⟨(cell_alloc_l _ q_3_0), (cell_alloc_l _ q_3_1), (cell_alloc_l _ q_3_2), (cell_alloc_l _ q_3_3), (cell_alloc_l _ q_3_4), (cell_alloc_l _ q_3_5)⟩ | exact ⟨q_4_0, q_4_1, q_4_2, q_4_3, q_4_4, q_4_5⟩)
          (first
          | (go_at_call 29; refine (HSY.out _ _ (RdQ.fresh qw3 [w0 * c0.2, w1 * c1.2, w2 * c2.2] _ _ rfl (by simp) 3 rfl _ rfl) (qg3.alloc _)).mono ?_; rintro e qw4 ⟨_, rfl, rfl, qb4_⟩
             have qb4 : Below qw3.heap.size qw3 qw4 := ((Below.refl _ _).alloc (Nat.le_refl _) _).trans (qb4_.mono (by simp))
             have q_4_0 := (qb4.cell (p := ⟨o6.heap.size, 0, none⟩) (by show o6.heap.size < qw3.heap.size; omega)).trans q_3_0
             have q_4_1 := (qb4.cell (p := ⟨o6.heap.size, 1, none⟩) (by show o6.heap.size < qw3.heap.size; omega)).trans q_3_1
             have q_4_2 := (qb4.cell (p := ⟨o6.heap.size, 2, none⟩) (by show o6.heap.size < qw3.heap.size; omega)).trans q_3_2
             have q_4_3 := (qb4.cell (p := ⟨v1.heap.size, 1, none⟩) (by show v1.heap.size < qw3.heap.size; omega)).trans q_3_3
             have q_4_4 := (qb4.cell (p := ⟨v1.heap.size, 3, none⟩) (by show v1.heap.size < qw3.heap.size; omega)).trans q_3_4
             have q_4_5 := (qb4.cell (p := ⟨v1.heap.size, 5, none⟩) (by show v1.heap.size < qw3.heap.size; omega)).trans q_3_5
             have qs4 : qw3.heap.size ≤ qw4.heap.size := qb4.size
             have qg4 : Good qw4 := qg3.below qb4)
          | (go_at_call 19; refine (HY2.out _ qg2).mono ?_; rintro e qw3 ⟨_, rfl, rfl, qb3⟩
             have q_3_0 := (qb3.cell (p := ⟨o6.heap.size, 0, none⟩) (by show o6.heap.size < qw2.heap.size; omega)).trans q_2_0
             have q_3_1 := (qb3.cell (p := ⟨o6.heap.size, 1, none⟩) (by show o6.heap.size < qw2.heap.size; omega)).trans q_2_1
             have q_3_2 := (qb3.cell (p := ⟨o6.heap.size, 2, none⟩) (by show o6.heap.size < qw2.heap.size; omega)).trans q_2_2
             have q_3_3 := (qb3.cell (p := ⟨v1.heap.size, 1, none⟩) (by show v1.heap.size < qw2.heap.size; omega)).trans q_2_3
             have q_3_4 := (qb3.cell (p := ⟨v1.heap.size, 3, none⟩) (by show v1.heap.size < qw2.heap.size; omega)).trans q_2_4
             have q_3_5 := (qb3.cell (p := ⟨v1.heap.size, 5, none⟩) (by show v1.heap.size < qw2.heap.size; omega)).trans q_2_5
             have qs3 : qw2.heap.size ≤ qw3.heap.size := qb3.size
             have qg3 : Good qw3 := qg2.below qb3)
          | (go_at_call 19; refine (HY1.out _ qg1).mono ?_; rintro e qw2 ⟨_, rfl, rfl, qb2⟩
             have q_2_0 := (qb2.cell (p := ⟨o6.heap.size, 0, none⟩) (by show o6.heap.size < qw1.heap.size; omega)).trans q_1_0
             have q_2_1 := (qb2.cell (p := ⟨o6.heap.size, 1, none⟩) (by show o6.heap.size < qw1.heap.size; omega)).trans q_1_1
             have q_2_2 := (qb2.cell (p := ⟨o6.heap.size, 2, none⟩) (by show o6.heap.size < qw1.heap.size; omega)).trans q_1_2
             have q_2_3 := (qb2.cell (p := ⟨v1.heap.size, 1, none⟩) (by show v1.heap.size < qw1.heap.size; omega)).trans q_1_3
             have q_2_4 := (qb2.cell (p := ⟨v1.heap.size, 3, none⟩) (by show v1.heap.size < qw1.heap.size; omega)).trans q_1_4
             have q_2_5 := (qb2.cell (p := ⟨v1.heap.size, 5, none⟩) (by show v1.heap.size < qw1.heap.size; omega)).trans q_1_5
             have qs2 : qw1.heap.size ≤ qw2.heap.size := qb2.size
             have qg2 : Good qw2 := qg1.below qb2)
          | (go_at_call 19; refine (HY0.out _ hgd4).mono ?_; rintro e qw1 ⟨_, rfl, rfl, qb1⟩
             have q_1_0 := (qb1.cell (p := ⟨o6.heap.size, 0, none⟩) (by show o6.heap.size < pw4.heap.size; omega)).trans d0
             have q_1_1 := (qb1.cell (p := ⟨o6.heap.size, 1, none⟩) (by show o6.heap.size < pw4.heap.size; omega)).trans d1
             have q_1_2 := (qb1.cell (p := ⟨o6.heap.size, 2, none⟩) (by show o6.heap.size < pw4.heap.size; omega)).trans d2
             have q_1_3 := (qb1.cell (p := ⟨v1.heap.size, 1, none⟩) (by show v1.heap.size < pw4.heap.size; omega)).trans f0
             have q_1_4 := (qb1.cell (p := ⟨v1.heap.size, 3, none⟩) (by show v1.heap.size < pw4.heap.size; omega)).trans f1
             have q_1_5 := (qb1.cell (p := ⟨v1.heap.size, 5, none⟩) (by show v1.heap.size < pw4.heap.size; omega)).trans f2
             have qs1 : pw4.heap.size ≤ qw1.heap.size := qb1.size
             have qg1 : Good qw1 := hgd4.below qb1))
        have qB : Below pw4.heap.size pw4 qw4 := (((((below_drewN pw4 1).trans (qb1.mono (by show pw4.heap.size ≤ pw4.heap.size; omega))).trans (qb2.mono (by show pw4.heap.size ≤ qw1.heap.size; omega))).trans (qb3.mono (by show pw4.heap.size ≤ qw2.heap.size; omega))).trans (qb4.mono (by show pw4.heap.size ≤ qw3.heap.size; omega)))
        have b9s := b9q.below qB b9q.lt
        have b8s := b8q.below qB b8q.lt
        have b11s := b11q.below qB b11q.lt
        have hBs := hBq.trans (qB.mono hBq.size)
        clear d0 d1 d2 f0 f1 f2 hl9 hl13 b9q b13q b8q b11q qB HSY HY0 HY1 HY2
        have d0 := b9s.cell 0 rfl
        have d1 := b9s.cell 1 rfl
        have d2 := b9s.cell 2 rfl
        have f0 := b11s.cell 0 rfl
        have f1 := b11s.cell 1 rfl
        have f2 := b11s.cell 2 rfl
        have j0 := b8s.cell 0 rfl
        have j1 := b8s.cell 1 rfl
        have hl8 := b8s.lt
        go_wp2_with fail
        refine (HS1.out _ _ (RdQ.fresh qw4 [w0, w1, w2] _ _ rfl (by simp) 3 rfl _ rfl) (qg4.alloc _)).mono ?_
        rintro e w9 ⟨_, rfl, rfl, hb9⟩
        have hb9' : Below qw4.heap.size qw4 w9 := ((Below.refl _ _).alloc (Nat.le_refl _) _).trans (hb9.mono (by simp))
        have j0' := (hb9'.cell (p := ⟨o4.heap.size, 0, none⟩) hl8).trans j0
        have j1' := (hb9'.cell (p := ⟨o4.heap.size, 1, none⟩) hl8).trans j1
        rw [RS_one]
        clear d0 d1 d2 f0 f1 f2 j0 j1 hb9
        go_wp2_with fail
        go_ret
        exact ⟨_, rfl, rfl, hBs.trans (hb9'.mono hBs.size)⟩

end Go.Proofs.YtccngnjkehibiaaGreatDoor
