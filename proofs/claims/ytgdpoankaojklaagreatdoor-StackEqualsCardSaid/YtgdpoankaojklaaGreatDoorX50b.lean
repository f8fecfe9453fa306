import Derived.Test.YtgdpoankaojklaaGreatDoorX50
import Derived.Test.YtgdpoankaojklaaGreatDoorVS48
import Derived.OpenShut
/- The law. -/
set_option maxHeartbeats 4000000
set_option maxRecDepth 100000
namespace Go.Proofs.YtgdpoankaojklaaGreatDoor
open Go Go.RowKit Go.Lib Go.Shelf
theorem depR_of {w : World} {vb vu vs : Value} {B : List Rat} {U : List ByteArray} {S : List (List Rat)} (hb : RdQ w vb B) (hu : RdS w vu U) (hs : RdF w vs S) : DepR w vb vu vs (B.map RS) U (S.map fun F => F.map RS) := ⟨hb.toS, hu, hs.toTx⟩
theorem unitTo_ne (m : Nat) : unitTo (m + 1) ≠ [] := by rw [unitTo_next]; simp
theorem rdS_none (w : World) : RdS w (.slice none 0 0) [] := ⟨none, 0, rfl, Nat.le_refl _, by decide, rfl, fun h => absurd rfl h⟩
theorem depR_none (w : World) : DepR w (.slice none 0 0) (.slice none 0 0) (.slice none 0 0) [] [] [] :=
 ⟨rdS_none w, rdS_none w, ⟨[], ⟨none, 0, rfl, Nat.le_refl _, by decide, rfl, fun h => absurd rfl h⟩, fun i u F h => by cases h⟩⟩
def MadeR (w : World) (r : Value) (w' : World) : Prop := ∃ pp np cp pt nt ct pb nb cb pu nu cu ps ns cs b U S, r = .tuple #[.agg #[.slice pp np cp, .slice pt nt ct], .agg #[.slice pb nb cb, .slice pu nu cu, .slice ps ns cs]] /\ DepR w' (.slice pb nb cb) (.slice pu nu cu) (.slice ps ns cs) b U S /\ U ≠ [] /\ w.heap.size <= w'.heap.size
theorem make28_law (w : World) (kz s0 s1 : Int) (half : Bool) (hk0 : 0 <= kz) (hk1 : kz <= 255) (hs0 : -128 <= s0 /\ s0 <= 127) (hs1 : -128 <= s1 /\ s1 <= 127) (a0 a1 a2 a3 a4 a5 : Int) (ah : Bool) (ha : ∀ x ∈ [a0, a1, a2, a3, a4, a5], -128 <= x /\ x <= 127) (vh : Value) (H : List StepQ) (hH : RdSt w vh H) (hH3 : H.length <= 3) (hg : Good w) :
 Calls Tryz.prog 15 #[.agg #[.int .u8 kz, .int .i8 s0, .int .i8 s1, .bool half, .int .i8 a0, .int .i8 a1, .int .i8 a2, .int .i8 a3, .int .i8 a4, .int .i8 a5, .bool ah, vh]] w (Ret (fun r w' => MadeR w r w') w) := by
 obtain ⟨kk, hk⟩ : ∃ k : Nat, kz.tmod 8 = (k : Int) := ⟨(kz.tmod 8).toNat, by have := Int.tmod_nonneg 8 hk0; omega⟩;refine (make28_any w kz s0 s1 half kk hk hk0 hk1 hs0 hs1 a0 a1 a2 a3 a4 a5 ah ha vh H hH hH3 _ rfl _ rfl hg).mono ?_;rintro e w' ⟨_, rfl, ⟨vp, vt, vb, vu, vs, rfl, hp, ht, hb, hu, hs⟩, hbw⟩;have hd := depR_of hb hu hs;obtain ⟨pp, cp, rfl, -, -, -⟩ := hp.open;obtain ⟨pt, ct, rfl, -, -, -⟩ := ht.open;obtain ⟨pb, cb, pu, cu, ps, cs, rfl, rfl, rfl⟩ := hd.open;exact ⟨_, rfl, ⟨_, _, _, _, _, _, _, _, _, _, _, _, _, _, _, _, _, _, rfl, hd, unitTo_ne _, hbw.size⟩, hbw⟩
theorem stackEquals_all (w : World) (kz s0 s1 : Int) (half : Bool) (a0 a1 a2 a3 a4 a5 : Int) (ah : Bool) (vh : Value) (H : List StepQ) (kz' s0' s1' : Int) (half' : Bool) (b0 b1 b2 b3 b4 b5 : Int) (bh : Bool) (vh' : Value) (H' : List StepQ)
 (hk0 : 0 <= kz) (hk1 : kz <= 255) (hs0 : -128 <= s0 /\ s0 <= 127) (hs1 : -128 <= s1 /\ s1 <= 127) (ha : ∀ x ∈ [a0, a1, a2, a3, a4, a5], -128 <= x /\ x <= 127) (hH : RdSt w vh H)
 (hk0' : 0 <= kz') (hk1' : kz' <= 255) (hs0' : -128 <= s0' /\ s0' <= 127) (hs1' : -128 <= s1' /\ s1' <= 127) (hb : ∀ x ∈ [b0, b1, b2, b3, b4, b5], -128 <= x /\ x <= 127) (hH' : RdSt w vh' H') (hg : Good w) :
 Calls Tryz.prog 3 #[.agg #[.int .u8 kz, .int .i8 s0, .int .i8 s1, .bool half, .int .i8 a0, .int .i8 a1, .int .i8 a2, .int .i8 a3, .int .i8 a4, .int .i8 a5, .bool ah, vh], .agg #[.int .u8 kz', .int .i8 s0', .int .i8 s1', .bool half', .int .i8 b0, .int .i8 b1, .int .i8 b2, .int .i8 b3, .int .i8 b4, .int .i8 b5, .bool bh, vh']] w (Ret (fun r _ => r = .bool true) w) := by
 have HM1 : Hid (H.length <= 3 -> ∀ w', Below w.heap.size w w' -> Good w' -> _) := fun h3 w' hbw hg => make28_law w' kz s0 s1 half hk0 hk1 hs0 hs1 a0 a1 a2 a3 a4 a5 ah ha vh H (hH.below hbw) h3 hg;have HM2 : Hid (H'.length <= 3 -> ∀ w', Below w.heap.size w w' -> Good w' -> _) := fun h3 w' hbw hg => make28_law w' kz' s0' s1' half' hk0' hk1' hs0' hs1' b0 b1 b2 b3 b4 b5 bh hb vh' H' (hH'.below hbw) h3 hg;obtain ⟨p1, c1, rfl, hc1, hc2, -⟩ := hH.1;obtain ⟨p2, c2, rfl, hd1, hd2, -⟩ := hH'.1;unfold maxLen at hc2 hd2;clear hH hH' ha hb hk0 hk1 hs0 hs1 hk0' hk1' hs0' hs1';obtain ⟨m1, hm1⟩ : ∃ n, n = H.length := ⟨_, rfl⟩;obtain ⟨m2, hm2⟩ : ∃ n, n = H'.length := ⟨_, rfl⟩;have HN := hid hm1;have HN' := hid hm2;rw [<- hm1] at hc1 HM1 ⊢;rw [<- hm2] at hd1 HM2 ⊢;clear hm1 hm2;have HX1 : Hid (∀ w', _) := fun w' => fits_any w' kz s0 s1 half a0 a1 a2 a3 a4 a5 ah p1 m1 c1 (by omega)
 have HX2 : Hid (∀ w', _) := fun w' => fits_any w' kz' s0' s1' half' b0 b1 b2 b3 b4 b5 bh p2 m2 c2 (by omega)
 obtain ⟨f1, hf1⟩ : ∃ f, f = decide (m1 <= 3) := ⟨_, rfl⟩;obtain ⟨f2, hf2⟩ : ∃ f, f = decide (m2 <= 3) := ⟨_, rfl⟩;rw [<- hf1] at HX1;rw [<- hf2] at HX2;have HF1 : Hid (f1 = true -> m1 <= 3) := fun h => of_decide_eq_true (hf1.symm.trans h);have HF2 : Hid (f2 = true -> m2 <= 3) := fun h => of_decide_eq_true (hf2.symm.trans h);clear hf1 hf2;go_enter Tryz.func3, Tryz.ntmps3;go_wp2_with fail;obtain ⟨W, hW⟩ : ∃ W, W = (w.alloc (.cells #[.int .u8 kz, .int .i8 s0, .int .i8 s1, .bool half, .int .i8 a0, .int .i8 a1, .int .i8 a2, .int .i8 a3, .int .i8 a4, .int .i8 a5, .bool ah, .slice p1 m1 c1] 31)).alloc (.cells #[.int .u8 kz', .int .i8 s0', .int .i8 s1', .bool half', .int .i8 b0, .int .i8 b1, .int .i8 b2, .int .i8 b3, .int .i8 b4, .int .i8 b5, .bool bh, .slice p2 m2 c2] 31) := ⟨_, rfl⟩;have hB : Below w.heap.size w W := by rw [hW]; exact zal2 _ _ _
 have bx : BoxN W w.heap.size 31 [.int .u8 kz, .int .i8 s0, .int .i8 s1, .bool half, .int .i8 a0, .int .i8 a1, .int .i8 a2, .int .i8 a3, .int .i8 a4, .int .i8 a5, .bool ah, .slice p1 m1 c1] := by
  rw [hW];exact (BoxN.new w #[.int .u8 kz, .int .i8 s0, .int .i8 s1, .bool half, .int .i8 a0, .int .i8 a1, .int .i8 a2, .int .i8 a3, .int .i8 a4, .int .i8 a5, .bool ah, .slice p1 m1 c1] 31 _ rfl).alloc _
 have by2 : BoxN W (w.heap.size + 1) 31 [.int .u8 kz', .int .i8 s0', .int .i8 s1', .bool half', .int .i8 b0, .int .i8 b1, .int .i8 b2, .int .i8 b3, .int .i8 b4, .int .i8 b5, .bool bh, .slice p2 m2 c2] := by rw [hW]; exact BoxN.new _ _ _ _ (by simp)
 rw [<- hW];clear hW;refine (known28_any W (hg.below hB)).mono ?_;rintro e o1 ⟨_, rfl, rfl, hb1⟩;have hB1 := hB.trans (hb1.mono hB.size);have bx1 := bx.below hb1 bx.lt;have by1 := by2.below hb1 by2.lt;clear hb1 hB bx by2;have k0 := bx1.cell 0 rfl;have k1 := bx1.cell 1 rfl;have k2 := bx1.cell 2 rfl;have k3 := bx1.cell 3 rfl;have k4 := bx1.cell 4 rfl;have k5 := bx1.cell 5 rfl;have k6 := bx1.cell 6 rfl;have k7 := bx1.cell 7 rfl;have k8 := bx1.cell 8 rfl;have k9 := bx1.cell 9 rfl;have k10 := bx1.cell 10 rfl;have k11 := bx1.cell 11 rfl;go_wp2_with fail;refine (HX1.out o1).mono ?_;rintro e o2 ⟨_, rfl, rfl, hb2⟩;have hB2 := hB1.trans (hb2.mono hB1.size);have bx2 := bx1.below hb2 bx1.lt;have by2 := by1.below hb2 by1.lt;clear hb2 hB1 bx1 by1 k0 k1 k2 k3 k4 k5 k6 k7 k8 k9 k10 k11 HX1;have k0 := by2.cell 0 rfl;have k1 := by2.cell 1 rfl;have k2 := by2.cell 2 rfl;have k3 := by2.cell 3 rfl;have k4 := by2.cell 4 rfl;have k5 := by2.cell 5 rfl;have k6 := by2.cell 6 rfl;have k7 := by2.cell 7 rfl;have k8 := by2.cell 8 rfl;have k9 := by2.cell 9 rfl;have k10 := by2.cell 10 rfl;have k11 := by2.cell 11 rfl;cases hf1 : f1
 ·go_wp2_with fail
  refine (known28_any o2 (hg.below hB2)).mono ?_;rintro e o3 ⟨_, rfl, rfl, hb3⟩;go_wp2_with fail;go_ret;exact ⟨_, rfl, rfl, hB2.trans (hb3.mono hB2.size)⟩
 go_wp2_with fail;refine (HX2.out o2).mono ?_;rintro e o3 ⟨_, rfl, rfl, hb3⟩;have hB3 := hB2.trans (hb3.mono hB2.size);have bx3 := bx2.below hb3 bx2.lt;have by3 := by2.below hb3 by2.lt;clear hb3 hB2 bx2 by2 k0 k1 k2 k3 k4 k5 k6 k7 k8 k9 k10 k11 HX2;cases hf2 : f2
 ·go_wp2_with fail
  refine (known28_any o3 (hg.below hB3)).mono ?_;rintro e o4 ⟨_, rfl, rfl, hb4⟩;go_wp2_with fail;go_ret;exact ⟨_, rfl, rfl, hB3.trans (hb4.mono hB3.size)⟩
 have k0 := bx3.cell 0 rfl;have k1 := bx3.cell 1 rfl;have k2 := bx3.cell 2 rfl;have k3 := bx3.cell 3 rfl;have k4 := bx3.cell 4 rfl;have k5 := bx3.cell 5 rfl;have k6 := bx3.cell 6 rfl;have k7 := bx3.cell 7 rfl;have k8 := bx3.cell 8 rfl;have k9 := bx3.cell 9 rfl;have k10 := bx3.cell 10 rfl;have k11 := bx3.cell 11 rfl;go_wp2_with fail;refine (HM1.out (HF1.out hf1) o3 hB3 (hg.below hB3)).mono ?_;rintro e o4 ⟨_, rfl, ⟨pp, np, cp, pt, nt, ct, pb, nb, cb, pu, nu, cu, ps, ns, cs, b, U, S, rfl, hD, hU, -⟩, hb4⟩;have hB4 := hB3.trans (hb4.mono hB3.size);have by4 := by3.below hb4 by3.lt;clear hb4 hB3 bx3 by3 k0 k1 k2 k3 k4 k5 k6 k7 k8 k9 k10 k11 HM1;go_upto_region 4 with fail;obtain ⟨o5, ho5⟩ : ∃ W, W = (o4.alloc (.cells #[.slice pp np cp, .slice pt nt ct] 37)).alloc (.cells #[.slice pb nb cb, .slice pu nu cu, .slice ps ns cs] 43) := ⟨_, rfl⟩;have h45 : Below o4.heap.size o4 o5 := by rw [ho5]; exact zal2 _ _ _
 obtain ⟨g6, hg6⟩ : ∃ g, g = o4.heap.size + 1 := ⟨_, rfl⟩;have d5 : BoxN o5 g6 43 [.slice pb nb cb, .slice pu nu cu, .slice ps ns cs] := by rw [ho5]; exact BoxN.new _ _ _ _ (by simp [hg6])
 have hD5 := hD.below h45;have hB5 := hB4.trans (h45.mono hB4.size);have by5 := by4.below h45 by4.lt;rw [<- ho5, <- hg6];clear ho5 hg6 h45 hD hB4 by4;have k0 := by5.cell 0 rfl;have k1 := by5.cell 1 rfl;have k2 := by5.cell 2 rfl;have k3 := by5.cell 3 rfl;have k4 := by5.cell 4 rfl;have k5 := by5.cell 5 rfl;have k6 := by5.cell 6 rfl;have k7 := by5.cell 7 rfl;have k8 := by5.cell 8 rfl;have k9 := by5.cell 9 rfl;have k10 := by5.cell 10 rfl;have k11 := by5.cell 11 rfl;go_wp2_with fail;refine (HM2.out (HF2.out hf2) o5 hB5 (hg.below hB5)).mono ?_;rintro e o6 ⟨_, rfl, ⟨pp', np', cp', pt', nt', ct', pb', nb', cb', pu', nu', cu', ps', ns', cs', b', U', S', rfl, hD', -, -⟩, hb6⟩;have hB6 := hB5.trans (hb6.mono hB5.size);have d6 := d5.below hb6 d5.lt;have hD6 := hD5.below hb6;clear hb6 hB5 d5 by5 hD5 k0 k1 k2 k3 k4 k5 k6 k7 k8 k9 k10 k11 HM2;go_upto_region 5 with fail;obtain ⟨W, hW⟩ : ∃ W, W = (o6.alloc (.cells #[.slice pp' np' cp', .slice pt' nt' ct'] 37)).alloc (.cells #[.slice pb' nb' cb', .slice pu' nu' cu', .slice ps' ns' cs'] 43) := ⟨_, rfl⟩;have h67 : Below o6.heap.size o6 W := by rw [hW]; exact zal2 _ _ _
 obtain ⟨g8, hg8⟩ : ∃ g, g = o6.heap.size + 1 := ⟨_, rfl⟩;have e7 : BoxN W g8 43 [.slice pb' nb' cb', .slice pu' nu' cu', .slice ps' ns' cs'] := by rw [hW]; exact BoxN.new _ _ _ _ (by simp [hg8])
 have d7 := d6.below h67 d6.lt;have hD1 := hD6.below h67;have hD2 := hD'.below h67;have hB7 := hB6.trans (h67.mono hB6.size);rw [<- hW, <- hg8];clear hW hg8 h67 hD6 hD' hB6 d6;obtain ⟨re, hre⟩ : ∃ r, decide (b = b' /\ U = U' /\ S = S') = r := ⟨_, rfl⟩;have HR := hid hre;have HU := hid hU;have HG : Hid (∀ X, Below W.heap.size W X -> Good X) := fun X hX => (hg.below hB7).below hX;have HD1 : Hid (∀ X, Below W.heap.size W X -> _) := fun X hX => hD1.below hX;have HD2 : Hid (∀ X, Below W.heap.size W X -> _) := fun X hX => hD2.below hX;have hl6 := d7.lt;have hl8 := e7.lt;have HC : Hid (∀ X, Below W.heap.size W X -> X.cell? ⟨g6, 0, none⟩ = some (.slice pb nb cb) /\ X.cell? ⟨g6, 1, none⟩ = some (.slice pu nu cu) /\ X.cell? ⟨g6, 2, none⟩ = some (.slice ps ns cs) /\ X.cell? ⟨g8, 0, none⟩ = some (.slice pb' nb' cb') /\ X.cell? ⟨g8, 1, none⟩ = some (.slice pu' nu' cu') /\ X.cell? ⟨g8, 2, none⟩ = some (.slice ps' ns' cs')) := fun X hb =>
  ⟨(d7.below hb hl6).cell 0 rfl, (d7.below hb hl6).cell 1 rfl, (d7.below hb hl6).cell 2 rfl, (e7.below hb hl8).cell 0 rfl, (e7.below hb hl8).cell 1 rfl, (e7.below hb hl8).cell 2 rfl⟩
 clear hre hU hD1 hD2 d7 e7 HF1 HF2 hl6 hl8;refine wp_region_mono (fun i X v => match i with
  | 0 | 3 | 8 | 9 | 19 => v = .agg #[.slice pb nb cb, .slice pu nu cu, .slice ps ns cs] | 1 | 4 => v = .agg #[.slice pb' nb' cb', .slice pu' nu' cu', .slice ps' ns' cs'] | 2 | 5 => v = .bool re | 6 | 7 | 10 | 11 | 12 | 16 | 17 | 18 | 22 | 23 | 24 => v = .bool true | 13 | 20 => v = .agg #[.slice none 0 0, .slice none 0 0, .slice none 0 0] | 14 => ∃ p c, v = .slice p 0 c /\ RdS X v [] | 15 => ∃ p c, v = .agg #[.slice none 0 0, .slice p 0 c, .slice none 0 0] /\ DepR X (.slice none 0 0) (.slice p 0 c) (.slice none 0 0) [] [] [] | 21 => v = .bool false | _ => True) ?_ (by kernel_rfl) (by kernel_rfl) ?_ ?_
 ·intro i X X' v h hb
  rcases i with _|_|_|_|_|_|_|_|_|_|_|_|_|_|_|_|_|_|_|_|_|_|_|_|_|i <;> first | exact h | trivial | (obtain ⟨p, c, rfl, h⟩ := h; first | exact ⟨p, c, rfl, RdC.below h hb⟩ | exact ⟨p, c, rfl, h.below hb⟩)
 ·intro listed a' X i o ho hdep hM
  have hX := hM.below;obtain ⟨z0, z1, z2, z3, z4, z5⟩ := HC.out X hX;have o6 : a'.eval (.tmp 6) = .pointer (some ⟨g6, 0, none⟩) := hM.old 6 (by intro j oj hj; rcases j with _|_|_|_|_|_|_|_|_|_|_|_|_|_|_|_|_|_|_|_|_|_|_|_|_|j <;> first | (injection hj with hj; subst hj; simp) | exact absurd hj (by simp));have o8 : a'.eval (.tmp 8) = .pointer (some ⟨g8, 0, none⟩) := hM.old 8 (by intro j oj hj; rcases j with _|_|_|_|_|_|_|_|_|_|_|_|_|_|_|_|_|_|_|_|_|_|_|_|_|j <;> first | (injection hj with hj; subst hj; simp) | exact absurd hj (by simp));rcases i with _|_|_|_|_|_|_|_|_|_|_|_|_|_|_|_|_|_|_|_|_|_|_|_|_|i
  ·injection ho with ho; subst ho
   refine ⟨rfl, wpIn_value (w' := X) nofun nofun ?_ ⟨_, Below.refl _ _, (fun _ h => by cases h; rfl), rfl⟩⟩;clear hdep hM;generalize a'.eval = ρ at *;simp [execOp, go_sem, *]
  ·injection ho with ho; subst ho
   refine ⟨rfl, wpIn_value (w' := X) nofun nofun ?_ ⟨_, Below.refl _ _, (fun _ h => by cases h; rfl), rfl⟩⟩;clear hdep hM;generalize a'.eval = ρ at *;simp [execOp, go_sem, *]
  ·injection ho with ho; subst ho
   have e0 : a'.eval (.tmp 32) = .agg #[.slice pb nb cb, .slice pu nu cu, .slice ps ns cs] := hM.has 0 _ 32 rfl rfl (hdep ⟨0, .data⟩ (by simp) rfl);have e1 : a'.eval (.tmp 33) = .agg #[.slice pb' nb' cb', .slice pu' nu' cu', .slice ps' ns' cs'] := hM.has 1 _ 33 rfl rfl (hdep ⟨1, .data⟩ (by simp) rfl);refine ⟨rfl, ?_⟩;refine wpIn_call (f := 16) (args := #[.agg #[.slice pb nb cb, .slice pu nu cu, .slice ps ns cs], .agg #[.slice pb' nb' cb', .slice pu' nu' cu', .slice ps' ns' cs']]) (w' := X) nofun (fun _ _ => trivial) ?_ ⟨fun h => by simp [Fence.wide] at h, ?_⟩
   ·have ef : a'.eval (.func 16) = .func (.func 16) #[] #[] := rfl
    clear hdep hM;generalize a'.eval = ρ at *;simp [execOp, go_sem, *]
   ·refine CallsIn.mono (callsIn_wide.2 (sEqual_any X _ _ _ _ _ _ _ _ _ _ _ _ (HD1.out X hX) (HD2.out X hX))) ?_
    rintro e X2 ⟨_, rfl, rfl, hbX⟩;exact ⟨_, rfl, _, hbX, (fun _ h => by cases h; exact congrArg Value.bool HR.out), rfl⟩
  ·injection ho with ho; subst ho
   refine ⟨rfl, wpIn_value (w' := X) nofun nofun ?_ ⟨_, Below.refl _ _, (fun _ h => by cases h; rfl), rfl⟩⟩;clear hdep hM;generalize a'.eval = ρ at *;simp [execOp, go_sem, *]
  ·injection ho with ho; subst ho
   refine ⟨rfl, wpIn_value (w' := X) nofun nofun ?_ ⟨_, Below.refl _ _, (fun _ h => by cases h; rfl), rfl⟩⟩;clear hdep hM;generalize a'.eval = ρ at *;simp [execOp, go_sem, *]
  ·injection ho with ho; subst ho
   have e3 : a'.eval (.tmp 35) = .agg #[.slice pb nb cb, .slice pu nu cu, .slice ps ns cs] := hM.has 3 _ 35 rfl rfl (hdep ⟨3, .data⟩ (by simp) rfl);have e4 : a'.eval (.tmp 36) = .agg #[.slice pb' nb' cb', .slice pu' nu' cu', .slice ps' ns' cs'] := hM.has 4 _ 36 rfl rfl (hdep ⟨4, .data⟩ (by simp) rfl);refine ⟨rfl, ?_⟩;refine wpIn_call (f := 17) (args := #[.agg #[.slice pb nb cb, .slice pu nu cu, .slice ps ns cs], .agg #[.slice pb' nb' cb', .slice pu' nu' cu', .slice ps' ns' cs']]) (w' := X) nofun (fun _ _ => trivial) ?_ ⟨fun h => by simp [Fence.wide] at h, ?_⟩
   ·have ef : a'.eval (.func 17) = .func (.func 17) #[] #[] := rfl
    clear hdep hM;generalize a'.eval = ρ at *;simp [execOp, go_sem, *]
   ·refine CallsIn.mono (callsIn_wide.2 (same28_any X _ _ _ _ _ _ _ _ _ _ _ _ (HD1.out X hX) (HD2.out X hX) (HG.out X hX))) ?_
    rintro e X2 ⟨_, rfl, rfl, hbX⟩;exact ⟨_, rfl, _, hbX, (fun _ h => by cases h; exact congrArg Value.bool HR.out), rfl⟩
  ·injection ho with ho; subst ho
   have e2 : a'.eval (.tmp 34) = .bool re := hM.has 2 _ 34 rfl rfl (hdep ⟨2, .data⟩ (by simp) rfl);have e5 : a'.eval (.tmp 37) = .bool re := hM.has 5 _ 37 rfl rfl (hdep ⟨5, .data⟩ (by simp) rfl);refine ⟨rfl, wpIn_value (w' := X) nofun nofun ?_ ⟨_, Below.refl _ _, (fun _ h => by cases h; rfl), rfl⟩⟩;clear hdep hM;generalize a'.eval = ρ at *;simp [execOp, go_sem, *]
  ·injection ho with ho; subst ho
   have e6 : a'.eval (.tmp 38) = .bool true := hM.has 6 _ 38 rfl rfl (hdep ⟨6, .data⟩ (by simp) rfl);refine ⟨rfl, wpIn_value (w' := X) nofun nofun ?_ ⟨_, Below.refl _ _, (fun _ h => by cases h; rfl), rfl⟩⟩;clear hdep hM;generalize a'.eval = ρ at *;simp [execOp, go_sem, *]
  ·injection ho with ho; subst ho
   have eg : a'.eval (.tmp 39) = .bool true := hM.has 7 _ 39 rfl rfl (hdep ⟨7, .guard⟩ (by simp) rfl);refine ⟨wanted_of rfl rfl rfl eg, wpIn_value (w' := X) nofun nofun ?_ ⟨_, Below.refl _ _, (fun _ h => by cases h; rfl), rfl⟩⟩;clear hdep hM;generalize a'.eval = ρ at *;simp [execOp, go_sem, *]
  ·injection ho with ho; subst ho
   have eg : a'.eval (.tmp 39) = .bool true := hM.has 7 _ 39 rfl rfl (hdep ⟨7, .guard⟩ (by simp) rfl);refine ⟨wanted_of rfl rfl rfl eg, wpIn_value (w' := X) nofun nofun ?_ ⟨_, Below.refl _ _, (fun _ h => by cases h; rfl), rfl⟩⟩;clear hdep hM;generalize a'.eval = ρ at *;simp [execOp, go_sem, *]
  ·injection ho with ho; subst ho
   have e8 : a'.eval (.tmp 40) = .agg #[.slice pb nb cb, .slice pu nu cu, .slice ps ns cs] := hM.has 8 _ 40 rfl rfl (hdep ⟨8, .data⟩ (by simp) rfl);have e9 : a'.eval (.tmp 41) = .agg #[.slice pb nb cb, .slice pu nu cu, .slice ps ns cs] := hM.has 9 _ 41 rfl rfl (hdep ⟨9, .data⟩ (by simp) rfl);have eg : a'.eval (.tmp 39) = .bool true := hM.has 7 _ 39 rfl rfl (hdep ⟨7, .guard⟩ (by simp) rfl);refine ⟨wanted_of rfl rfl rfl eg, ?_⟩;refine wpIn_call (f := 16) (args := #[.agg #[.slice pb nb cb, .slice pu nu cu, .slice ps ns cs], .agg #[.slice pb nb cb, .slice pu nu cu, .slice ps ns cs]]) (w' := X) nofun (fun _ _ => trivial) ?_ ⟨fun h => by simp [Fence.wide] at h, ?_⟩
   ·have ef : a'.eval (.func 16) = .func (.func 16) #[] #[] := rfl
    clear hdep hM;generalize a'.eval = ρ at *;simp [execOp, go_sem, *]
   ·refine CallsIn.mono (callsIn_wide.2 (sEqual_any X _ _ _ _ _ _ _ _ _ _ _ _ (HD1.out X hX) (HD1.out X hX))) ?_
    rintro e X2 ⟨_, rfl, rfl, hbX⟩;exact ⟨_, rfl, _, hbX, (fun _ h => by cases h; exact congrArg Value.bool (decide_eq_true ⟨rfl, rfl, rfl⟩)), rfl⟩
  ·injection ho with ho; subst ho
   have e7 : a'.eval (.tmp 39) = .bool true := hM.has 7 _ 39 rfl rfl (hdep ⟨7, .data⟩ (by simp) rfl);have e10 : a'.eval (.tmp 42) = .bool true := hM.has 10 _ 42 rfl rfl (hdep ⟨10, .data⟩ (by simp) rfl);refine ⟨rfl, wpIn_value (w' := X) nofun nofun ?_ ⟨_, Below.refl _ _, (fun _ h => by cases h; rfl), rfl⟩⟩;clear hdep hM;have hcst : ∀ v, a'.eval (.const v) = v := fun _ => rfl;generalize a'.eval = ρ at *;simp [execOp, go_sem, *]
  ·injection ho with ho; subst ho
   have e11 : a'.eval (.tmp 43) = .bool true := hM.has 11 _ 43 rfl rfl (hdep ⟨11, .data⟩ (by simp) rfl);refine ⟨rfl, wpIn_value (w' := X) nofun nofun ?_ ⟨_, Below.refl _ _, (fun _ h => by cases h; rfl), rfl⟩⟩;clear hdep hM;generalize a'.eval = ρ at *;simp [execOp, go_sem, *]
  ·injection ho with ho; subst ho
   have eg : a'.eval (.tmp 44) = .bool true := hM.has 12 _ 44 rfl rfl (hdep ⟨12, .guard⟩ (by simp) rfl);refine ⟨wanted_of rfl rfl rfl eg, wpIn_value (w' := X) nofun nofun ?_ ⟨_, Below.refl _ _, (fun _ h => by cases h; rfl), rfl⟩⟩;clear hdep hM;generalize a'.eval = ρ at *;simp [execOp, go_sem, *]
  ·injection ho with ho; subst ho
   have eg : a'.eval (.tmp 44) = .bool true := hM.has 12 _ 44 rfl rfl (hdep ⟨12, .guard⟩ (by simp) rfl);refine ⟨wanted_of rfl rfl rfl eg, ?_⟩;refine wpIn_value (v := .slice (some ⟨X.heap.size, 0, none⟩) 0 0) (w' := X.alloc (.cells #[] 9)) nofun nofun ?_ ⟨_, (Below.refl _ _).alloc (Nat.le_refl _) _, (fun _ h => by cases h; exact ⟨_, _, rfl, ⟨_, 0, rfl, Nat.le_refl _, by decide, rfl, fun h => absurd rfl h⟩⟩), rfl⟩;clear hdep hM;generalize a'.eval = ρ at *;simp [execOp, go_sem, *]
  ·injection ho with ho; subst ho
   have d14 := hM.has 14 _ 46 rfl rfl (hdep ⟨14, .data⟩ (by simp) rfl);have eg : a'.eval (.tmp 44) = .bool true := hM.has 12 _ 44 rfl rfl (hdep ⟨12, .guard⟩ (by simp) rfl);refine ⟨wanted_of rfl rfl rfl eg, ?_⟩;obtain ⟨p2, c2, e2, r2⟩ := d14;rw [e2] at r2;refine wpIn_value (v := .agg #[.slice none 0 0, .slice p2 0 c2, .slice none 0 0]) (w' := X) nofun nofun ?_ ⟨_, Below.refl _ _, (fun _ h => by cases h; exact ⟨_, _, rfl, ⟨rdS_none X, r2, (depR_none X).surf⟩⟩), rfl⟩;clear hdep hM r2;generalize a'.eval = ρ at *;simp [execOp, go_sem, *]
  ·injection ho with ho; subst ho
   have e13 : a'.eval (.tmp 45) = .agg #[.slice none 0 0, .slice none 0 0, .slice none 0 0] := hM.has 13 _ 45 rfl rfl (hdep ⟨13, .data⟩ (by simp) rfl);have d15 := hM.has 15 _ 47 rfl rfl (hdep ⟨15, .data⟩ (by simp) rfl);have eg : a'.eval (.tmp 44) = .bool true := hM.has 12 _ 44 rfl rfl (hdep ⟨12, .guard⟩ (by simp) rfl);refine ⟨wanted_of rfl rfl rfl eg, ?_⟩;obtain ⟨p1, c1, e1, r1⟩ := d15;refine wpIn_call (f := 16) (args := #[.agg #[.slice none 0 0, .slice none 0 0, .slice none 0 0], .agg #[.slice none 0 0, .slice p1 0 c1, .slice none 0 0]]) (w' := X) nofun (fun _ _ => trivial) ?_ ⟨fun h => by simp [Fence.wide] at h, ?_⟩
   ·have ef : a'.eval (.func 16) = .func (.func 16) #[] #[] := rfl
    clear hdep hM r1;generalize a'.eval = ρ at *;simp [execOp, go_sem, *]
   ·refine CallsIn.mono (callsIn_wide.2 (sEqual_any X _ _ _ _ _ _ _ _ _ _ _ _ (depR_none X) r1)) ?_
    rintro e X2 ⟨_, rfl, rfl, hbX⟩;exact ⟨_, rfl, _, hbX, (fun _ h => by cases h; exact congrArg Value.bool (decide_eq_true ⟨rfl, rfl, rfl⟩)), rfl⟩
  ·injection ho with ho; subst ho
   have e12 : a'.eval (.tmp 44) = .bool true := hM.has 12 _ 44 rfl rfl (hdep ⟨12, .data⟩ (by simp) rfl);have e16 : a'.eval (.tmp 48) = .bool true := hM.has 16 _ 48 rfl rfl (hdep ⟨16, .data⟩ (by simp) rfl);refine ⟨rfl, wpIn_value (w' := X) nofun nofun ?_ ⟨_, Below.refl _ _, (fun _ h => by cases h; rfl), rfl⟩⟩;clear hdep hM;have hcst : ∀ v, a'.eval (.const v) = v := fun _ => rfl;generalize a'.eval = ρ at *;simp [execOp, go_sem, *]
  ·injection ho with ho; subst ho
   have e17 : a'.eval (.tmp 49) = .bool true := hM.has 17 _ 49 rfl rfl (hdep ⟨17, .data⟩ (by simp) rfl);refine ⟨rfl, wpIn_value (w' := X) nofun nofun ?_ ⟨_, Below.refl _ _, (fun _ h => by cases h; rfl), rfl⟩⟩;clear hdep hM;generalize a'.eval = ρ at *;simp [execOp, go_sem, *]
  ·injection ho with ho; subst ho
   have eg : a'.eval (.tmp 50) = .bool true := hM.has 18 _ 50 rfl rfl (hdep ⟨18, .guard⟩ (by simp) rfl);refine ⟨wanted_of rfl rfl rfl eg, wpIn_value (w' := X) nofun nofun ?_ ⟨_, Below.refl _ _, (fun _ h => by cases h; rfl), rfl⟩⟩;clear hdep hM;generalize a'.eval = ρ at *;simp [execOp, go_sem, *]
  ·injection ho with ho; subst ho
   have eg : a'.eval (.tmp 50) = .bool true := hM.has 18 _ 50 rfl rfl (hdep ⟨18, .guard⟩ (by simp) rfl);refine ⟨wanted_of rfl rfl rfl eg, wpIn_value (w' := X) nofun nofun ?_ ⟨_, Below.refl _ _, (fun _ h => by cases h; rfl), rfl⟩⟩;clear hdep hM;generalize a'.eval = ρ at *;simp [execOp, go_sem, *]
  ·injection ho with ho; subst ho
   have e19 : a'.eval (.tmp 51) = .agg #[.slice pb nb cb, .slice pu nu cu, .slice ps ns cs] := hM.has 19 _ 51 rfl rfl (hdep ⟨19, .data⟩ (by simp) rfl);have e20 : a'.eval (.tmp 52) = .agg #[.slice none 0 0, .slice none 0 0, .slice none 0 0] := hM.has 20 _ 52 rfl rfl (hdep ⟨20, .data⟩ (by simp) rfl);have eg : a'.eval (.tmp 50) = .bool true := hM.has 18 _ 50 rfl rfl (hdep ⟨18, .guard⟩ (by simp) rfl);refine ⟨wanted_of rfl rfl rfl eg, ?_⟩;refine wpIn_call (f := 16) (args := #[.agg #[.slice pb nb cb, .slice pu nu cu, .slice ps ns cs], .agg #[.slice none 0 0, .slice none 0 0, .slice none 0 0]]) (w' := X) nofun (fun _ _ => trivial) ?_ ⟨fun h => by simp [Fence.wide] at h, ?_⟩
   ·have ef : a'.eval (.func 16) = .func (.func 16) #[] #[] := rfl
    clear hdep hM;generalize a'.eval = ρ at *;simp [execOp, go_sem, *]
   ·refine CallsIn.mono (callsIn_wide.2 (sEqual_any X _ _ _ _ _ _ _ _ _ _ _ _ (HD1.out X hX) (depR_none X))) ?_
    rintro e X2 ⟨_, rfl, rfl, hbX⟩;exact ⟨_, rfl, _, hbX, (fun _ h => by cases h; exact congrArg Value.bool (decide_eq_false fun h => HU.out h.2.1)), rfl⟩
  ·injection ho with ho; subst ho
   have e21 : a'.eval (.tmp 53) = .bool false := hM.has 21 _ 53 rfl rfl (hdep ⟨21, .data⟩ (by simp) rfl);have eg : a'.eval (.tmp 50) = .bool true := hM.has 18 _ 50 rfl rfl (hdep ⟨18, .guard⟩ (by simp) rfl);refine ⟨wanted_of rfl rfl rfl eg, wpIn_value (w' := X) nofun nofun ?_ ⟨_, Below.refl _ _, (fun _ h => by cases h; rfl), rfl⟩⟩;clear hdep hM;generalize a'.eval = ρ at *;simp [execOp, go_sem, *]
  ·injection ho with ho; subst ho
   have e18 : a'.eval (.tmp 50) = .bool true := hM.has 18 _ 50 rfl rfl (hdep ⟨18, .data⟩ (by simp) rfl);have e22 : a'.eval (.tmp 54) = .bool true := hM.has 22 _ 54 rfl rfl (hdep ⟨22, .data⟩ (by simp) rfl);refine ⟨rfl, wpIn_value (w' := X) nofun nofun ?_ ⟨_, Below.refl _ _, (fun _ h => by cases h; rfl), rfl⟩⟩;clear hdep hM;have hcst : ∀ v, a'.eval (.const v) = v := fun _ => rfl;generalize a'.eval = ρ at *;simp [execOp, go_sem, *]
  ·injection ho with ho; subst ho
   have e23 : a'.eval (.tmp 55) = .bool true := hM.has 23 _ 55 rfl rfl (hdep ⟨23, .data⟩ (by simp) rfl);refine ⟨rfl, wpIn_value (w' := X) nofun nofun ?_ ⟨_, Below.refl _ _, (fun _ h => by cases h; rfl), rfl⟩⟩;clear hdep hM;generalize a'.eval = ρ at *;simp [execOp, go_sem, *]
  ·exact absurd ho (by simp)
 ·intro listed a' X hall hM hsz hdf
  have e0 : a'.eval (.tmp 4) = .bool true := hM.has 24 _ 4 rfl rfl (hall 24 (by simp));have hX := hM.below;have qX := hB7.trans (hX.mono hB7.size);have hdf2 : a'.defers = [] := hdf;replace e0 : a'.tmps.getD 4 undef = .bool true := e0;rw [Array.getD_eq_getD_getElem?] at e0;clear hM hall hdf hsz;go_wp2_with fail;refine bodyPost_ret (v := .bool true) (by simp [results, Tryz.results3, go_sem, e0]) hdf2 ⟨_, rfl, rfl, qX⟩
end Go.Proofs.YtgdpoankaojklaaGreatDoor
namespace Go.Proofs.YtgdpoankaojklaaGreatDoor
open Go.ChangeShapes Go.WideShapes Go.ChangeAt Go.RowKit Go.Lib
section
variable {H : Type} {enc : TypeId × Value -> H} {w : World} {base : Nat} {sp : Nat -> Bool} {held : Bool}
theorem trod_step {n : Nat} {cs : List Value} {x : DataW H × List MemPlace} (h : DataW.trod enc Tryz.prog w base sp held n 28 cs = some x) :
 ∃ (x0 x1 x2 x3 x4 x5 : Int) (bh : Bool), cs = [.int .i8 x0, .int .i8 x1, .int .i8 x2, .int .i8 x3, .int .i8 x4, .int .i8 x5, .bool bh] /\ ∀ x ∈ [x0, x1, x2, x3, x4, x5], -128 <= x /\ x <= 127 := by
 obtain ⟨xs, m, rfl, rfl, hl, hx, hf⟩ := DataW.trod_struct Tryz.underlying28 h;have e7 : (Tryz.prog).cellsOf 28 = 7 := by kernel_rfl
 have e6 : (Tryz.prog).cellsOf 26 = 6 := by kernel_rfl
 have e1 : (Tryz.prog).cellsOf 22 = 1 := by kernel_rfl
 have eb : (Tryz.prog).cellsOf 4 = 1 := by kernel_rfl
 obtain ⟨c0, c1, c2, c3, c4, c5, c6, rfl⟩ : ∃ c0 c1 c2 c3 c4 c5 c6, cs = [c0, c1, c2, c3, c4, c5, c6] := by
  rw [e7] at hl
  match cs, hl with
  | [c0, c1, c2, c3, c4, c5, c6], _ => exact ⟨c0, c1, c2, c3, c4, c5, c6, rfl⟩
 have hx2 : xs.length = 2 := hx;have h0 : DataW.trod enc Tryz.prog w base sp held m 26 (([c0, c1, c2, c3, c4, c5, c6].drop 0).take ((Tryz.prog).cellsOf 26)) = xs[0]? := hf 0 _ rfl;have h1 : DataW.trod enc Tryz.prog w base sp held m 4 (([c0, c1, c2, c3, c4, c5, c6].drop 6).take ((Tryz.prog).cellsOf 4)) = xs[1]? := hf 1 _ rfl;rw [List.getElem?_eq_getElem (by omega)] at h0 h1;rw [e6] at h0;rw [eb] at h1;obtain ⟨ys, m2, rfl, -, -, hy, hg⟩ := DataW.trod_array Tryz.underlying26 h0;obtain ⟨bh, hb, -⟩ := DataW.trod_bool boolT h1;have I : ∀ i, i < 6 -> ∃ n, (([c0, c1, c2, c3, c4, c5].drop (i * 1)).take 1) = [Value.int .i8 n] /\ -128 <= n /\ n <= 127 := fun i hi => by
  have h2 := hg i hi;rw [e1, List.getElem?_eq_getElem (by omega)] at h2;obtain ⟨n, hn, -, hw⟩ := DataW.trod_int i8T h2;exact ⟨n, hn, bounds_i8 hw⟩
 obtain ⟨x0, a0, b0⟩ := I 0 (by omega);obtain ⟨x1, a1, b1⟩ := I 1 (by omega);obtain ⟨x2, a2, b2⟩ := I 2 (by omega);obtain ⟨x3, a3, b3⟩ := I 3 (by omega);obtain ⟨x4, a4, b4⟩ := I 4 (by omega);obtain ⟨x5, a5, b5⟩ := I 5 (by omega);refine ⟨x0, x1, x2, x3, x4, x5, bh, ?_, ?_⟩
 ·cases a0; cases a1; cases a2; cases a3; cases a4; cases a5; cases hb; rfl
 ·intro x hx
  simp only [List.mem_cons, List.not_mem_nil, or_false] at hx;rcases hx with rfl | rfl | rfl | rfl | rfl | rfl <;> assumption
theorem cells_get {a : Addr} {n : Nat} {cs : List Value} (h : w.cells? base a n = some cs) : cs.length = n /\ ∀ (i : Nat) (x : Value), cs[i]? = some x -> w.cell? (a.add i) = some x := by
 obtain ⟨_, hl, hc⟩ := World.cells?_some h;exact ⟨hl, fun i x hx => (hc i (by have := (List.getElem?_eq_some_iff.1 hx).1; omega)).trans hx⟩
theorem trod_steps {v : Value} {n : Nat} {x : DataW H × List MemPlace} (h : DataW.trod enc Tryz.prog w base sp held n 29 [v] = some x) : ∃ S : List StepQ, RdSt w v S := by
 have e7 : (Tryz.prog).cellsOf 28 = 7 := by kernel_rfl
 rcases DataW.trod_slice Tryz.underlying29 h with ⟨hv, -⟩ | ⟨a, len, cap, elems, rest, m, rfl, hv, -, -, h1, h2, h3, h4, -, -⟩
 ·cases hv
  exact ⟨[], ⟨none, 0, rfl, Nat.le_refl _, by decide, rfl, fun h => absurd rfl h⟩, fun h hh => by cases hh⟩
 ·cases hv
  rw [e7] at h4;have E : ∀ i, i < len -> ∃ (x0 x1 x2 x3 x4 x5 : Int) (bh : Bool), (∀ x ∈ [x0, x1, x2, x3, x4, x5], -128 <= x /\ x <= 127) /\ ∀ (j : Nat) (u : Value), [Value.int .i8 x0, .int .i8 x1, .int .i8 x2, .int .i8 x3, .int .i8 x4, .int .i8 x5, .bool bh][j]? = some u -> w.cell? ((a.add (i * 7)).add j) = some u := fun i hi => by
   have h5 := h4 i hi;rw [List.getElem?_eq_getElem (by omega)] at h5;obtain ⟨cs, hc, ht⟩ := Option.bind_eq_some_iff.1 h5;obtain ⟨x0, x1, x2, x3, x4, x5, bh, rfl, hb⟩ := trod_step ht;exact ⟨x0, x1, x2, x3, x4, x5, bh, hb, (cells_get hc).2⟩
  obtain ⟨S, hS, hS2⟩ : ∃ S : List StepQ, S.length = len /\ ∀ (i : Nat) (s : StepQ), S[i]? = some s -> s.1.length = 6 /\ (∀ x ∈ s.1, -128 <= x /\ x <= 127) /\ ∀ (j : Nat) (u : Value), (s.1.map (fun x => Value.int .i8 x) ++ [Value.bool s.2])[j]? = some u -> w.cell? ((a.add (i * 7)).add j) = some u := by
   clear h4 h3 h2 h1 h
   induction len with
   | zero => exact ⟨[], rfl, fun i s hs => by cases hs⟩
   | succ k ih =>
     obtain ⟨S, hS, hS2⟩ := ih (fun i hi => E i (by omega));obtain ⟨x0, x1, x2, x3, x4, x5, bh, hb, hc⟩ := E k (by omega);refine ⟨S ++ [([x0, x1, x2, x3, x4, x5], bh)], by simp [hS], fun i s hs => ?_⟩;by_cases hi : i < S.length
     ·rw [List.getElem?_append_left hi] at hs
      exact hS2 i s hs
     ·have hik : i = k := by have := (List.getElem?_eq_some_iff.1 hs).1; simp at this; omega
      subst hik;rw [List.getElem?_append_right (by omega), hS, Nat.sub_self] at hs;cases hs;exact ⟨rfl, hb, hc⟩
  refine ⟨S, ⟨some a, cap, by rw [hS], by omega, h2, ?_, fun hne => ?_⟩, fun s hs => ?_⟩
  ·have : ∀ L : List StepQ, (∀ s ∈ L, s.1.length = 6) -> (cellsSt L).length = L.length * 7 := fun L => by
    induction L with
    | nil => intro _; rfl
    | cons s L ih => intro hs; unfold cellsSt at ih ⊢; rw [List.flatMap_cons, List.length_append, ih (fun x hx => hs x (by simp [hx]))]; have := hs s (by simp); simp [this]; omega
   exact this S fun s hs => by obtain ⟨i, hi⟩ := List.mem_iff_getElem?.1 hs; exact (hS2 i s hi).1
  ·have hall : ∀ s ∈ S, s.1.length = 6 := fun s hs => by obtain ⟨i, hi⟩ := List.mem_iff_getElem?.1 hs; exact (hS2 i s hi).1
   have hp : 0 < S.length := by
    rcases S with _ | ⟨s, S⟩
    ·exact absurd rfl hne
    ·simp
   obtain ⟨b, off, spot⟩ := a;have h0 := hS2 0 S[0] (List.getElem?_eq_getElem hp);obtain ⟨x0, x1, x2, x3, x4, x5, hx⟩ := list_six h0.1;have hc0 := h0.2.2 0 (.int .i8 x0) (by rw [hx]; rfl);have hspot : spot = none := by simpa [Addr.add] using World.cell?_spot hc0
   subst hspot;refine ⟨b, off, rfl, fun i x hix => ?_⟩;have hlen : (cellsSt S).length = S.length * 7 := by
    have : ∀ L : List StepQ, (∀ s ∈ L, s.1.length = 6) -> (cellsSt L).length = L.length * 7 := fun L => by
     induction L with
     | nil => intro _; rfl
     | cons s L ih => intro hs; unfold cellsSt at ih ⊢; rw [List.flatMap_cons, List.length_append, ih (fun x hx => hs x (by simp [hx]))]; have := hs s (by simp); simp [this]; omega
    exact this S hall
   have hi7 : i < S.length * 7 := by rw [<- hlen]; exact (List.getElem?_eq_some_iff.1 hix).1
   have hq : i / 7 < S.length := by omega
   have hr : i % 7 < 7 := Nat.mod_lt _ (by omega);have e := cellsSt_get S hall (i / 7) (i % 7) hq hr;have ei : i / 7 * 7 + i % 7 = i := by omega
   rw [ei, hix] at e;have := (hS2 (i / 7) S[i / 7] (List.getElem?_eq_getElem hq)).2.2 (i % 7) x e.symm;rw [Go.Lib.add_plain, Go.Lib.add_plain, Nat.add_assoc, ei] at this;exact this
  ·obtain ⟨i, hi⟩ := List.mem_iff_getElem?.1 hs
   exact ⟨(hS2 i s hi).1, (hS2 i s hi).2.1⟩
theorem plan28_types : (Tryz.prog).cellTypes (Tryz.prog).depth 31 = some [5, 22, 22, 4, 22, 22, 22, 22, 22, 22, 4, 29] := by kernel_rfl
theorem plan28_struct : ∃ fs, (Tryz.prog).underlying 31 = some (.struct fs) := ⟨_, Tryz.underlying31⟩
theorem plan28_cells : (Tryz.prog).cellsOf 31 = 12 := by kernel_rfl
theorem open_plan28 {r : Reach} {b : Nat} {v : Value} {d : DataW H} {ps : List MemPlace} (h : Value.okWide Tryz.prog w r b 31 v) (hT : DataW.Trod enc Tryz.prog w base sp held 31 v d ps) :
 ∃ (kz s0 s1 : Int) (half : Bool) (a0 a1 a2 a3 a4 a5 : Int) (ah : Bool) (vh : Value) (S : List StepQ),
  v = .agg #[.int .u8 kz, .int .i8 s0, .int .i8 s1, .bool half, .int .i8 a0, .int .i8 a1, .int .i8 a2, .int .i8 a3, .int .i8 a4, .int .i8 a5, .bool ah, vh] /\
  (0 <= kz /\ kz <= 255) /\ (-128 <= s0 /\ s0 <= 127) /\ (-128 <= s1 /\ s1 <= 127) /\ (∀ x ∈ [a0, a1, a2, a3, a4, a5], -128 <= x /\ x <= 127) /\ RdSt w vh S := by
 obtain ⟨fs, hfs⟩ := plan28_struct;obtain ⟨cs, rfl, hsz, hc⟩ := agg_cells hfs plan28_types plan28_cells h;have I : ∀ i, [5, 22, 22, 4, 22, 22, 22, 22, 22, 22, 4, 29][i]? = some 22 -> ∃ n, cs[i]? = some (Value.int .i8 n) /\ -128 <= n /\ n <= 127 := fun i hi => by
  obtain ⟨x, hx, hok⟩ := hc i _ hi;obtain ⟨n, rfl, hn⟩ := cell_int i8T hok;exact ⟨n, hx, has_i8 hn⟩
 have B : ∀ i, [5, 22, 22, 4, 22, 22, 22, 22, 22, 22, 4, 29][i]? = some 4 -> ∃ n, cs[i]? = some (Value.bool n) := fun i hi => by
  obtain ⟨x, hx, hok⟩ := hc i _ hi;obtain ⟨n, rfl⟩ := cell_bool boolT hok;exact ⟨n, hx⟩
 obtain ⟨x, hx, hok⟩ := hc 0 _ rfl;obtain ⟨kz, rfl, hkz⟩ := cell_int u8T hok;obtain ⟨s0, e1, l1⟩ := I 1 rfl;obtain ⟨s1, e2, l2⟩ := I 2 rfl;obtain ⟨half, e3⟩ := B 3 rfl;obtain ⟨a0, e4, l4⟩ := I 4 rfl;obtain ⟨a1, e5, l5⟩ := I 5 rfl;obtain ⟨a2, e6, l6⟩ := I 6 rfl;obtain ⟨a3, e7, l7⟩ := I 7 rfl;obtain ⟨a4, e8, l8⟩ := I 8 rfl;obtain ⟨a5, e9, l9⟩ := I 9 rfl;obtain ⟨ah, e10⟩ := B 10 rfl;obtain ⟨vh, e11, -⟩ := hc 11 _ rfl;have ev : cs = #[.int .u8 kz, .int .i8 s0, .int .i8 s1, .bool half, .int .i8 a0, .int .i8 a1, .int .i8 a2, .int .i8 a3, .int .i8 a4, .int .i8 a5, .bool ah, vh] := by
  apply Array.ext_getElem?;intro i
  match i with
  | 0 => exact hx
  | 1 => exact e1
  | 2 => exact e2
  | 3 => exact e3
  | 4 => exact e4
  | 5 => exact e5
  | 6 => exact e6
  | 7 => exact e7
  | 8 => exact e8
  | 9 => exact e9
  | 10 => exact e10
  | 11 => exact e11
  | j + 12 => rw [Array.getElem?_eq_none (by have : cs.size = 12 := hsz; omega), Array.getElem?_eq_none (by simp)]
 subst ev;obtain ⟨fuel, hT⟩ := hT;obtain ⟨xs, m, rfl, -, -, hxl, hf⟩ := DataW.trod_struct Tryz.underlying31 hT;have hx3 : xs.length = 3 := hxl;have h2 : DataW.trod enc Tryz.prog w base sp held m 29 (((#[Value.int .u8 kz, .int .i8 s0, .int .i8 s1, .bool half, .int .i8 a0, .int .i8 a1, .int .i8 a2, .int .i8 a3, .int .i8 a4, .int .i8 a5, .bool ah, vh] : Array Value).toList.drop 11).take ((Tryz.prog).cellsOf 29)) = xs[2]? := hf 2 _ rfl;rw [List.getElem?_eq_getElem (by omega)] at h2;have es : (Tryz.prog).cellsOf 29 = 1 := by kernel_rfl
 rw [es] at h2;obtain ⟨S, hS⟩ := trod_steps (v := vh) h2;refine ⟨kz, s0, s1, half, a0, a1, a2, a3, a4, a5, ah, vh, S, rfl, has_u8 hkz, l1, l2, ?_, hS⟩;intro x hx;simp only [List.mem_cons, List.not_mem_nil, or_false] at hx;rcases hx with rfl | rfl | rfl | rfl | rfl | rfl <;> assumption
end
end Go.Proofs.YtgdpoankaojklaaGreatDoor
