import Derived.Test.YtdhcliekejiegaaGreatDoorF19
import Derived.Test.YtdhcliekejiegaaGreatDoorF9
import Derived.Maps.AppendAt
import Derived.BigRegion
import Derived.Deep.RegionHeld3
import Derived.Test.YtdhcliekejiegaaGreatDoorF16a
import Derived.Test.YtdhcliekejiegaaGreatDoorX1
import Derived.Test.YtdhcliekejiegaaGreatDoorF12a
set_option maxHeartbeats 8000000
set_option maxRecDepth 100000
namespace Go.Proofs.YtdhcliekejiegaaGreatDoor
open Go.RowKit Go.Lib
theorem value05_any (a b c : Rat) (p : PtQ) (k : Nat) (hk : 0 < k) (hk2 : k ≤ 4000) (ha : Sz k a) (hb : Sz k b) (hc : Sz k c) (hp : SzP k p) (w : World) (hg : Good w) :
 Calls Tryz.prog 33 #[.string (RS a), .string (RS b), .string (RS c), .agg #[.string (RS p.1), .string (RS p.2)]] w (Ret (fun r _ => r = .string (RS (a * p.1 + b * p.2 - c))) w) := by
 have H1 : Hid (∀ w, Good w → _) := fun w hg => mulQ_any a p.1 k hk (by omega) ha hp.1 w hg
 have H2 : Hid (∀ w, Good w → _) := fun w hg => mulQ_any b p.2 k hk (by omega) hb hp.2 w hg
 have z1 : Sz (2 * k) (a * p.1) := (ha.mul hp.1).mono (by omega)
 have z2 : Sz (2 * k) (b * p.2) := (hb.mul hp.2).mono (by omega)
 have H3 : Hid (∀ w, Good w → _) := fun w hg => addQ_any (a * p.1) (b * p.2) (2 * k) (by omega) (by omega) z1 z2 w hg
 have z3 : Sz (4 * k + 1) (a * p.1 + b * p.2) := (z1.add z2).mono (by omega)
 have H4 : Hid (∀ w, Good w → _) := fun w hg => subQ_any (a * p.1 + b * p.2) c (4 * k + 1) (by omega) (by omega) z3 (hc.mono (by omega)) w hg
 generalize a * p.1 + b * p.2 = s at *
 generalize a * p.1 = x at *
 generalize b * p.2 = y at *
 clear ha hb hc hp z1 z2 z3
 go_enter Tryz.func33, Tryz.ntmps33
 go_upto_region 1 with fail
 obtain ⟨W, hW⟩ : ∃ W, W = w.alloc (.cells #[.string (RS p.1), .string (RS p.2)] 59) := ⟨_, rfl⟩
 have hB : Below w.heap.size w W := by rw [hW]; exact zal _ _
 have b7 : BoxN W w.heap.size 59 [.string (RS p.1), .string (RS p.2)] := by rw [hW]; exact BoxN.new _ _ _ _ rfl
 rw [← hW]
 clear hW
 have u0 := b7.cell 0 rfl
 have u1 := b7.cell 1 rfl
 have l7 := b7.lt
 have hgd : Good W.drew := (hg.below hB).drewN 1
 go_region_held3 (fun w' => w'.cell? ⟨w.heap.size, 0, none⟩ = some (.string (RS p.1)) ∧ w'.cell? ⟨w.heap.size, 1, none⟩ = some (.string (RS p.2)))
  (first | exact ⟨u0, u1⟩ | exact ⟨p_1_0, p_1_1⟩ | exact ⟨p_2_0, p_2_1⟩ | exact ⟨p_3_0, p_3_1⟩ | exact ⟨p_4_0, p_4_1⟩)
  (first
  | (go_at_call 27; refine (H4.out _ pg3).mono ?_; rintro e pw4 ⟨_, rfl, rfl, pb4⟩
     have p_4_0 := zct pb4 p_3_0
     have p_4_1 := zct pb4 p_3_1
     have ps4 : pw3.heap.size ≤ pw4.heap.size := pb4.size
     have pg4 : Good pw4 := pg3.below pb4)
  | (go_at_call 28; refine (H3.out _ pg2).mono ?_; rintro e pw3 ⟨_, rfl, rfl, pb3⟩
     have p_3_0 := zct pb3 p_2_0
     have p_3_1 := zct pb3 p_2_1
     have ps3 : pw2.heap.size ≤ pw3.heap.size := pb3.size
     have pg3 : Good pw3 := pg2.below pb3)
  | (go_at_call 39; refine (H2.out _ pg1).mono ?_; rintro e pw2 ⟨_, rfl, rfl, pb2⟩
     have p_2_0 := zct pb2 p_1_0
     have p_2_1 := zct pb2 p_1_1
     have ps2 : pw1.heap.size ≤ pw2.heap.size := pb2.size
     have pg2 : Good pw2 := pg1.below pb2)
  | (go_at_call 39; refine (H1.out _ hgd).mono ?_; rintro e pw1 ⟨_, rfl, rfl, pb1⟩
     have p_1_0 := zct pb1 u0
     have p_1_1 := zct pb1 u1
     have ps1 : W.heap.size ≤ pw1.heap.size := pb1.size
     have pg1 : Good pw1 := hgd.below pb1))
 have pB : Below W.heap.size W pw4 := zbt (zbt (zbt (zbt (below_drewN W 1) pb1) pb2) pb3) pb4
 go_wp2_with fail
 go_ret
 exact ⟨_, rfl, rfl, hB.trans (pB.mono hB.size)⟩
theorem idx_R0 (x y z : Value) (w : World) : (Instr.index 96 (.agg #[x, y, z]) (.int .i64 0)).run Tryz.prog w = .ok x w := by kernel_rfl
theorem idx_R1 (x y z : Value) (w : World) : (Instr.index 96 (.agg #[x, y, z]) (.int .i64 1)).run Tryz.prog w = .ok y w := by kernel_rfl
theorem idx_R2 (x y z : Value) (w : World) : (Instr.index 96 (.agg #[x, y, z]) (.int .i64 2)).run Tryz.prog w = .ok z w := by kernel_rfl
def planeQ (a b z : Rat) (p : PtQ) : Rat := z + a * p.1 + b * p.2
def planeL (a b z : Rat) (P : List PtQ) : List Rat := P.map (planeQ a b z)
theorem planeL_length (a b z : Rat) (P : List PtQ) : (planeL a b z P).length = P.length := List.length_map ..
theorem planeL_get (a b z : Rat) (P : List PtQ) (i : Nat) (h : i < P.length) : (planeL a b z P)[i]? = some (planeQ a b z P[i]) := by
 unfold planeL
 rw [List.getElem?_map]
 simp [h]
theorem planeQ_Sz {a b z : Rat} {p : PtQ} (ha : Sz 40 a) (hb : Sz 40 b) (hz : Sz 40 z) (hp : SzP 2 p) : Sz 130 (planeQ a b z p) := by
 unfold planeQ
 exact ((hz.add (ha.mul hp.1)).add (hb.mul hp.2)).mono (by omega)
theorem planeL_Sz {a b z : Rat} {P : List PtQ} (ha : Sz 40 a) (hb : Sz 40 b) (hz : Sz 40 z) (hp : ∀ p ∈ P, SzP 2 p) : ∀ q ∈ planeL a b z P, Sz 130 q := fun q hq => by
 obtain ⟨p, h, rfl⟩ := List.mem_map.1 hq
 exact planeQ_Sz ha hb hz (hp p h)
theorem fplane_ok (w : World) (vp vt : Value) (P : List PtQ) (T : List Tri) (hp : RdP w vp (strP P)) (ht : RdT w vt T) (hm : MeshOK P T 2) (a b z : Rat) (za : Sz 40 a) (zb : Sz 40 b) (zz : Sz 40 z) (hg : Good w) :
 Calls Tryz.prog 31 #[.agg #[vp, vt], .agg #[.string (RS a), .string (RS b)], .string (RS z)] w (Ret (fun r w' => ∃ v, r = .tuple #[v, .int .i64 0] ∧ RdQ w' v (planeL a b z P)) w) := by
 have HCK : Hid (∀ w', Below w.heap.size w w' → Good w' → Calls Tryz.prog 47 #[.agg #[vp, vt]] w' (Ret (fun r _ => r = .int .i64 0) w')) := fun w' hb hg' => check_any w' vp vt P T 2 (RdC.below hp hb) (RdC.below ht hb) hm hg'
 have sa := za.size (by omega)
 have sb := zb.size (by omega)
 have sz := zz.size (by omega)
 have chk : ∀ q : Rat, Sz 40 q → (RS q).size < 1000000000 → ∀ w, Good w → Calls Tryz.prog 86 #[.string (RS q)] w (Ret (fun v _ => v = .int .i64 0) w) := fun q hq hs w hg => by
  have := checkQ_any (RS q) hs w hg
  rw [RS_list, rightQ_RL (hq.mono (by omega))] at this
  exact this
 have HA0 := Lib.hid (chk a za (by omega))
 have HB0 := Lib.hid (chk b zb (by omega))
 have HZ0 := Lib.hid (chk z zz (by omega))
 have HPL : Hid (∀ i (h : i < P.length), (planeL a b z P).take (i + 1) = (planeL a b z P).take i ++ [planeQ a b z P[i]]) := fun i h => take_snoc _ _ _ (planeL_get a b z P i h)
 have HPS : Hid (∀ i (h : i < P.length), SzP 2 P[i]) := fun i h => hm.sz _ (List.getElem_mem h)
 have HLL : Hid ((planeL a b z P).length = P.length) := planeL_length a b z P
 have HLS : Hid (∀ q ∈ planeL a b z P, Sz 200 q) := fun q hq => (planeL_Sz za zb zz hm.sz q hq).mono (by omega)
 have HZA := Lib.hid za
 have HZB := Lib.hid zb
 have HZZ := Lib.hid zz
 have hpl := hm.plen
 obtain ⟨pp, cp, rfl, -, -, hpr⟩ := hp.open
 obtain ⟨pt, ct, rfl, -, -, -⟩ := ht.open
 rw [strP_length] at *
 have HPR : Hid (∀ i (h : i < P.length), ∃ bp op : Nat, pp = some ⟨bp, op, none⟩ ∧ bp < w.heap.size ∧ w.cell? ⟨bp, op + i * 2, none⟩ = some (.string (RS P[i].1)) ∧ w.cell? ⟨bp, op + i * 2 + 1, none⟩ = some (.string (RS P[i].2))) := fun i h => by
  obtain ⟨bp, op, h1, h2, h3⟩ := hpr (by intro e; have h := strP_length P; rw [e] at h; simp at h; omega)
  obtain ⟨ex, ey⟩ := h3 i (by rw [strP_length]; exact h)
  rw [strP_get P i h] at ex ey
  exact ⟨bp, op, h1, h2, ex, ey⟩
 obtain ⟨i0, hi, hz0, hz1, hz2⟩ := info_parts info_str
 generalize planeL a b z P = D at *
 clear hp ht hm hpr za zb zz chk sa sb sz
 go_enter Tryz.func31, Tryz.ntmps31
 go_wp2_with fail
 obtain ⟨W, hW⟩ : ∃ W, W = (w.alloc (.cells #[.slice pp P.length cp, .slice pt T.length ct] 30)).alloc (.cells #[.string (RS a), .string (RS b)] 59) := ⟨_, rfl⟩
 have hB : Below w.heap.size w W := by rw [hW]; exact zal2 _ _ _
 have b4 : BoxN W (w.heap.size + 1) 59 [.string (RS a), .string (RS b)] := by rw [hW]; exact BoxN.new _ _ _ _ (by simp)
 have b3 : BoxN W w.heap.size 30 [.slice pp P.length cp, .slice pt T.length ct] := by
  rw [hW]
  have h1 := (BoxN.new w #[.slice pp P.length cp, .slice pt T.length ct] 30 _ rfl)
  exact h1.below (zal _ _) h1.lt
 rw [← hW]
 clear hW
 refine (HCK.out W hB (hg.below hB)).mono ?_
 rintro e w1 ⟨_, rfl, rfl, hb1⟩
 have hB1 := hB.trans (hb1.mono hB.size)
 have b31 := b3.below hb1 b3.lt
 have b41 := b4.below hb1 b4.lt
 clear hb1 hB b3 b4 HCK
 have u0 := b41.cell 0 rfl
 have u1 := b41.cell 1 rfl
 go_wp2_with fail
 go_loopw [26] (fun t26 wr => ∃ i : Nat, t26 = .int .i64 i ∧ i ≤ 3 ∧ Below w1.heap.size w1 wr) (fun t26 _ => 3 - (RowKit.intOf t26).toNat)
 case atStart => exact ⟨0, rfl, by omega, Below.refl _ _⟩
 case round =>
  obtain ⟨i, rfl, hi3, hbr⟩ := hrel
  have hBr := hB1.trans (hbr.mono hB1.size)
  have hgr := hg.below hBr
  rcases (by omega : i = 0 ∨ i = 1 ∨ i = 2 ∨ i = 3) with rfl | rfl | rfl | rfl
  ·rw [show ((0 : Nat) : Int) = 0 from rfl]
   have i0' := idx_R0
   go_wp2_with fail
   refine (HA0.out _ hgr).mono ?_
   rintro e w2 ⟨_, rfl, rfl, hb2⟩
   go_wp2_with fail
   go_roundw
   case rel => exact ⟨1, rfl, by omega, hbr.trans (hb2.mono hbr.size)⟩
   case measure => simp [RowKit.intOf]
  ·rw [show ((1 : Nat) : Int) = 1 from rfl]
   have i1' := idx_R1
   go_wp2_with fail
   refine (HB0.out _ hgr).mono ?_
   rintro e w2 ⟨_, rfl, rfl, hb2⟩
   go_wp2_with fail
   go_roundw
   case rel => exact ⟨2, rfl, by omega, hbr.trans (hb2.mono hbr.size)⟩
   case measure => simp [RowKit.intOf]
  ·rw [show ((2 : Nat) : Int) = 2 from rfl]
   have i2' := idx_R2
   go_wp2_with fail
   refine (HZ0.out _ hgr).mono ?_
   rintro e w2 ⟨_, rfl, rfl, hb2⟩
   go_wp2_with fail
   go_roundw
   case rel => exact ⟨3, rfl, by omega, hbr.trans (hb2.mono hbr.size)⟩
   case measure => simp [RowKit.intOf]
  ·rw [show ((3 : Nat) : Int) = 3 from rfl]
   have b3r := b31.below hbr b31.lt
   have b4r := b41.below hbr b41.lt
   have m0 := b3r.cell 0 rfl
   clear u0 u1 b31 b41 hgr
   obtain ⟨wo, hwo⟩ : ∃ wo : World, wo = wr := ⟨_, rfl⟩
   subst hwo
   go_wp2_with fail
   go_loopw [12, 38] (fun t12 t38 wr => ∃ i : Nat, t38 = .int .i64 i ∧ i ≤ P.length ∧ wr.ownsRow wo.heap.size 32 1 t12 i ((D.take i).map fun q => Value.string (RS q)) ∧ Below wo.heap.size wo wr) (fun _ t38 _ => P.length - (RowKit.intOf t38).toNat)
   case atStart => exact ⟨0, rfl, Nat.zero_le _, World.ownsRow_nil _ _ _ _, Below.refl _ _⟩
   case round =>
    obtain ⟨i, rfl, hin, hown, hbx⟩ := hrel
    obtain ⟨p12, c12, rfl⟩ := ownsRow_shape hown
    have hBx := hBr.trans (hbx.mono hBr.size)
    rcases Nat.lt_or_ge i P.length with hlt | hlt
    ·obtain ⟨bp, op, rfl, hbp, ex, ey⟩ := HPR.out i hlt
     have hiz : (i : Int) < (P.length : Int) := by omega
     have HT1 := Lib.hid (HPL.out i hlt)
     have zp := HPS.out i hlt
     obtain ⟨o, ho⟩ : ∃ o, o = P[i] := ⟨_, rfl⟩
     rw [← ho] at ex ey zp HT1
     have x0 := zcq hBx hbp ex
     have x1 := zcq hBx hbp ey
     have HM1 : Hid (∀ w, Good w → _) := fun w hg => ratMul_any a o.1 40 (by omega) (by omega) HZA.out (zp.1.mono (by omega)) w hg
     have HM2 : Hid (∀ w, Good w → _) := fun w hg => ratMul_any b o.2 40 (by omega) (by omega) HZB.out (zp.2.mono (by omega)) w hg
     have HSUM : Hid (∀ (v : Value) (w : World), RdQ w v [z, a * o.1, b * o.2] → Good w → _) := fun v w hr hg => ratSum_any [z, a * o.1, b * o.2] 42 (by omega) (by simp) (by
      intro q hq
      simp only [List.mem_cons, List.not_mem_nil, or_false] at hq
      rcases hq with rfl | rfl | rfl
      ·exact HZZ.out.mono (by omega)
      ·exact (HZA.out.mul zp.1).mono (by omega)
      ·exact (HZB.out.mul zp.2).mono (by omega)) v w hr hg
     have hfold : [z, a * o.1, b * o.2].foldl (·+ ·) 0 = planeQ a b z o := by
      unfold planeQ
      simp only [List.foldl_cons, List.foldl_nil]
      grind
     rw [hfold] at HSUM
     generalize planeQ a b z o = res at *
     generalize a * o.1 = y1 at *
     generalize b * o.2 = y2 at *
     clear ho ex ey zp hfold
     go_upto_region 15 with fail
     obtain ⟨V, hV⟩ : ∃ V, V = wr.alloc (.cells #[.string (RS o.1), .string (RS o.2)] 59) := ⟨_, rfl⟩
     have hrV : Below wr.heap.size wr V := by rw [hV]; exact zal _ _
     have b14 : BoxN V wr.heap.size 59 [.string (RS o.1), .string (RS o.2)] := by rw [hV]; exact BoxN.new _ _ _ _ rfl
     rw [← hV]
     clear hV x0 x1
     have hbV := hbx.trans (hrV.mono hbx.size)
     have hBV := hBx.trans (hrV.mono hBx.size)
     have b4V := b4r.below hbV b4r.lt
     have l4 := b4V.lt
     have l14 := b14.lt
     have hown0 := World.ownsRow.belowAll hown (hrV.trans ((below_drewN V 1).mono hrV.size))
     have HC : Hid (∀ w', Below V.heap.size V w' → w'.cell? ⟨w.heap.size + 1, 0, none⟩ = some (.string (RS a)) ∧ w'.cell? ⟨w.heap.size + 1, 1, none⟩ = some (.string (RS b)) ∧ w'.cell? ⟨wr.heap.size, 0, none⟩ = some (.string (RS o.1)) ∧ w'.cell? ⟨wr.heap.size, 1, none⟩ = some (.string (RS o.2))) := fun w' hb => by
      have c4 := b4V.below hb b4V.lt
      have c14 := b14.below hb b14.lt
      exact ⟨c4.cell 0 rfl, c4.cell 1 rfl, c14.cell 0 rfl, c14.cell 1 rfl⟩
     have q0 : Below V.heap.size V V.drew := below_drewN V 1
     have hgd : Good V.drew := (hg.below hBV).drewN 1
     have hVz := hbV.size
     have HOL : Hid (∀ j, (Value.slice p12 i c12).ownBlock = some j → j < wr.heap.size) := fun j hj => (hown.lt j hj).2
     have hrz := hrV.size
     have hlt4 := b4r.lt
     clear hown hrV b14 b4V
     go_region_held3 (fun w' => w'.cell? ⟨w.heap.size + 1, 0, none⟩ = some (.string (RS a)) ∧ w'.cell? ⟨w.heap.size + 1, 1, none⟩ = some (.string (RS b)) ∧ w'.cell? ⟨wr.heap.size, 0, none⟩ = some (.string (RS o.1)) ∧ w'.cell? ⟨wr.heap.size, 1, none⟩ = some (.string (RS o.2)))
      (first | exact S5 | (refine HC.out _ ?_; repeat (first | with_reducible exact q3 | with_reducible exact q2 | with_reducible exact q1 | with_reducible exact q0 | with_reducible exact Below.refl _ _ | with_reducible refine Below.drew ?_ | ((with_reducible refine Below.alloc ?_ ?_ _); rotate_left; (first | exact Nat.le_refl _ | omega | (simp <;> omega))))))
      (first
        | (refine step_append_lies _ (by rfl) (.tmp 42) (.tmp 56) 61 (by rfl) wo.heap.size 32 i0 (.string ⟨#[]⟩) 1 16 Tryz.underlying61 hi hz0 hz1 hz2 rfl (by decide) _ i _ (by simp [Act.eval]) (hown3.alloc _) ⟨x3.heap.size, 0, none⟩ 1 1 [.string (RS res)] (by simp [Act.eval]) rfl (cell_one_str _ _ _) (one_cell_str _) (by omega) (by unfold maxLen; omega) (by omega) (by simp; omega) _ rfl ?_
           intro g5 cap5 w5 hown5 hgr5 hat5 hlt5
           have hb5 : Below wo.heap.size wo w5 := ((hbV.trans (q3.mono hbV.size)).alloc (by omega) _).grown hgr5 (by simp; omega) (fun j hj => by have := (hown3.lt j hj).1; omega)
           have hne5 : some wr.heap.size ≠ (Value.slice p12 i c12).ownBlock := fun e => by have := HOL.out _ e.symm; omega
           have hne4 : some (w.heap.size + 1) ≠ (Value.slice p12 i c12).ownBlock := fun e => by have := (hown3.lt _ e.symm).1; omega
           obtain ⟨e0, e1, e2, e3⟩ := HC.out _ q3
           have S5 := And.intro ((hgr5.cell_far ⟨w.heap.size + 1, 0, none⟩ (by simp; omega) hne4).trans (cell_alloc_l _ e0)) (And.intro ((hgr5.cell_far ⟨w.heap.size + 1, 1, none⟩ (by simp; omega) hne4).trans (cell_alloc_l _ e1)) (And.intro ((hgr5.cell_far ⟨wr.heap.size, 0, none⟩ (by simp; omega) hne5).trans (cell_alloc_l _ e2)) ((hgr5.cell_far ⟨wr.heap.size, 1, none⟩ (by simp; omega) hne5).trans (cell_alloc_l _ e3)))))
        | (go_at_call 87; refine (HSUM.out _ _ (RdQ.fresh x2 [z, y1, y2] _ _ rfl (by simp) 3 rfl _ rfl) (hg2.alloc _)).mono ?_; rintro e x3 ⟨_, rfl, rfl, hb3⟩
           have q3 : Below V.heap.size V x3 := (q2.alloc (by omega) _).trans (hb3.mono (by simp; omega))
           have hown3 := World.ownsRow.belowAll (hown2.alloc _) hb3
           have hz3 := q3.size)
        | (go_at_call 88; refine (HM2.out _ hg1).mono ?_; rintro e x2 ⟨_, rfl, rfl, hb2⟩
           have q2 : Below V.heap.size V x2 := q1.trans (hb2.mono q1.size)
           have hown2 := World.ownsRow.belowAll hown1 hb2
           have hz2' := q2.size
           have hg2 := hg1.below hb2)
        | (go_at_call 88; refine (HM1.out _ hgd).mono ?_; rintro e x1 ⟨_, rfl, rfl, hb1⟩
           have q1 : Below V.heap.size V x1 := q0.trans (hb1.mono (Nat.le_refl _))
           have hown1 := World.ownsRow.belowAll hown0 hb1
           have hg1 := hgd.below hb1))
     all_goals
      go_wp2_with fail
      go_roundw
      case rel => exact ⟨i + 1, by go_num, by omega, by rw [HT1.out, List.map_append]; exact hown5, hb5⟩
      case measure => simp [RowKit.intOf]; omega
    ·obtain rfl : i = P.length := by omega
     have HRD := Lib.hid (row_rd hown HLL.out)
     go_wp2_with fail
     have HFF : Hid (Calls Tryz.prog 89 #[.slice p12 P.length c12] wr (Ret (fun r _ => r = .tuple #[.slice p12 P.length c12, .int .i64 0]) wr)) := ffield_any wr _ D HRD.out (by rw [HLL.out]; omega) HLS.out (hg.below hBx)
     refine HFF.out.mono ?_
     rintro e w4 ⟨_, rfl, rfl, hb4⟩
     go_wp2_with fail
     go_ret2
     exact ⟨_, rfl, ⟨_, rfl, RdC.below HRD.out hb4⟩, hBx.trans (hb4.mono hBx.size)⟩
theorem fplane_number (w : World) (vp vt : Value) (P : List PtQ) (T : List Tri) (hp : RdP w vp (strP P)) (ht : RdT w vt T) (hm : MeshOK P T 2) (x0 x1 x2 : ByteArray) (h0 : x0.size < 1000000000) (h1 : x1.size < 1000000000) (h2 : x2.size < 1000000000) (he : allQ [x0, x1, x2] = false) (hg : Good w) :
 Calls Tryz.prog 31 #[.agg #[vp, vt], .agg #[.string x0, .string x1], .string x2] w (Ret (fun r _ => r = .tuple #[.slice none 0 0, .int .i64 2]) w) := by
 have HCK : Hid (∀ w', Below w.heap.size w w' → Good w' → Calls Tryz.prog 47 #[.agg #[vp, vt]] w' (Ret (fun r _ => r = .int .i64 0) w')) := fun w' hb hg' => check_any w' vp vt P T 2 (RdC.below hp hb) (RdC.below ht hb) hm hg'
 have HA0 : Hid (∀ w, Good w → _) := fun w hg => checkQ_any x0 h0 w hg
 have HB0 : Hid (∀ w, Good w → _) := fun w hg => checkQ_any x1 h1 w hg
 have HZ0 : Hid (∀ w, Good w → _) := fun w hg => checkQ_any x2 h2 w hg
 have HE : Hid ((rightQ x0.data.toList && rightQ x1.data.toList && rightQ x2.data.toList) = false) := by
  unfold Hid
  unfold allQ at he
  simpa [Bool.and_assoc] using he
 obtain ⟨pp, cp, rfl, -, -, -⟩ := hp.open
 obtain ⟨pt, ct, rfl, -, -, -⟩ := ht.open
 rw [strP_length] at *
 generalize rightQ x0.data.toList = r0 at *
 generalize rightQ x1.data.toList = r1 at *
 generalize rightQ x2.data.toList = r2 at *
 clear hp ht hm he h0 h1 h2
 go_enter Tryz.func31, Tryz.ntmps31
 go_wp2_with fail
 obtain ⟨W, hW⟩ : ∃ W, W = (w.alloc (.cells #[.slice pp P.length cp, .slice pt T.length ct] 30)).alloc (.cells #[.string x0, .string x1] 59) := ⟨_, rfl⟩
 have hB : Below w.heap.size w W := by rw [hW]; exact zal2 _ _ _
 have b4 : BoxN W (w.heap.size + 1) 59 [.string x0, .string x1] := by rw [hW]; exact BoxN.new _ _ _ _ (by simp)
 rw [← hW]
 clear hW
 refine (HCK.out W hB (hg.below hB)).mono ?_
 rintro e w1 ⟨_, rfl, rfl, hb1⟩
 have hB1 := hB.trans (hb1.mono hB.size)
 have b41 := b4.below hb1 b4.lt
 clear hb1 hB b4 HCK
 have u0 := b41.cell 0 rfl
 have u1 := b41.cell 1 rfl
 go_wp2_with fail
 go_loopw [26] (fun t26 wr => ∃ i : Nat, t26 = .int .i64 i ∧ i ≤ 3 ∧ Hid ((0 < i → r0 = true) ∧ (1 < i → r1 = true) ∧ (2 < i → r2 = true)) ∧ Below w1.heap.size w1 wr) (fun t26 _ => 3 - (RowKit.intOf t26).toNat)
 case atStart => exact ⟨0, rfl, by omega, ⟨fun h => by omega, fun h => by omega, fun h => by omega⟩, Below.refl _ _⟩
 case round =>
  obtain ⟨i, rfl, hi3, HJ, hbr⟩ := hrel
  have hBr := hB1.trans (hbr.mono hB1.size)
  have hgr := hg.below hBr
  rcases (by omega : i = 0 ∨ i = 1 ∨ i = 2 ∨ i = 3) with rfl | rfl | rfl | rfl
  ·rw [show ((0 : Nat) : Int) = 0 from rfl]
   have ix := idx_R0
   go_wp2_with fail
   refine (HA0.out _ hgr).mono ?_
   rintro e w2 ⟨_, rfl, rfl, hb2⟩
   cases hr : r0
   ·rw [show errNum false = 2 from rfl]
    go_wp2_with fail
    go_ret2
    exact ⟨_, rfl, rfl, hBr.trans (hb2.mono hBr.size)⟩
   ·rw [show errNum true = 0 from rfl]
    have HR : Hid (r0 = true) := hr
    clear hr
    go_wp2_with fail
    go_roundw
    case rel => exact ⟨1, rfl, by omega, ⟨fun _ => HR.out, fun h => by omega, fun h => by omega⟩, hbr.trans (hb2.mono hbr.size)⟩
    case measure => simp [RowKit.intOf]
  ·rw [show ((1 : Nat) : Int) = 1 from rfl]
   have HJ1 : Hid ( r0 = true) := HJ.out.1 (by omega)
   have ix := idx_R1
   go_wp2_with fail
   refine (HB0.out _ hgr).mono ?_
   rintro e w2 ⟨_, rfl, rfl, hb2⟩
   cases hr : r1
   ·rw [show errNum false = 2 from rfl]
    go_wp2_with fail
    go_ret2
    exact ⟨_, rfl, rfl, hBr.trans (hb2.mono hBr.size)⟩
   ·rw [show errNum true = 0 from rfl]
    have HR : Hid (r1 = true) := hr
    clear hr
    go_wp2_with fail
    go_roundw
    case rel => exact ⟨2, rfl, by omega, ⟨fun _ => HJ1.out, fun _ => HR.out, fun h => by omega⟩, hbr.trans (hb2.mono hbr.size)⟩
    case measure => simp [RowKit.intOf]
  ·rw [show ((2 : Nat) : Int) = 2 from rfl]
   have HJ1 : Hid ( r0 = true) := HJ.out.1 (by omega)
   have HJ2 : Hid ( r1 = true) := HJ.out.2.1 (by omega)
   have ix := idx_R2
   go_wp2_with fail
   refine (HZ0.out _ hgr).mono ?_
   rintro e w2 ⟨_, rfl, rfl, hb2⟩
   cases hr : r2
   ·rw [show errNum false = 2 from rfl]
    go_wp2_with fail
    go_ret2
    exact ⟨_, rfl, rfl, hBr.trans (hb2.mono hBr.size)⟩
   ·rw [show errNum true = 0 from rfl]
    have HR : Hid (r2 = true) := hr
    clear hr
    go_wp2_with fail
    go_roundw
    case rel => exact ⟨3, rfl, by omega, ⟨fun _ => HJ1.out, fun _ => HJ2.out, fun _ => HR.out⟩, hbr.trans (hb2.mono hbr.size)⟩
    case measure => simp [RowKit.intOf]
  ·obtain ⟨e0, e1, e2⟩ := HJ.out
   have := HE.out
   rw [e0 (by omega), e1 (by omega), e2 (by omega)] at this
   cases this
theorem planeL_zero (z : Rat) (P : List PtQ) : planeL 0 0 z P = P.map fun _ => z := by
 unfold planeL planeQ
 apply List.map_congr_left
 intro p _
 grind
theorem fconst_ok (w : World) (vp vt : Value) (P : List PtQ) (T : List Tri) (hp : RdP w vp (strP P)) (ht : RdT w vt T) (hm : MeshOK P T 2) (z : Rat) (zz : Sz 40 z) (hg : Good w) :
 Calls Tryz.prog 30 #[.agg #[vp, vt], .string (RS z)] w (Ret (fun r w' => ∃ v, r = .tuple #[v, .int .i64 0] ∧ RdQ w' v (P.map fun _ => z)) w) := by
 have HPL : Hid (∀ w', Below w.heap.size w w' → Good w' → Calls Tryz.prog 31 #[.agg #[vp, vt], .agg #[.string ⟨#[48]⟩, .string ⟨#[48]⟩], .string (RS z)] w' (Ret (fun r w' => ∃ v, r = .tuple #[v, .int .i64 0] ∧ RdQ w' v (P.map fun _ => z)) w')) := fun w' hb hg => by
  have := fplane_ok w' vp vt P T (RdC.below hp hb) (RdC.below ht hb) hm 0 0 z (Sz.zero _ (by omega)) (Sz.zero _ (by omega)) zz hg
  rw [planeL_zero, rs0] at this
  exact this
 obtain ⟨pp, cp, rfl, -, -, -⟩ := hp.open
 obtain ⟨pt, ct, rfl, -, -, -⟩ := ht.open
 rw [strP_length] at *
 clear hp ht hm zz
 go_enter Tryz.func30, Tryz.ntmps30
 go_wp2_with fail
 have hB : Below w.heap.size w (w.alloc (.cells #[.slice pp P.length cp, .slice pt T.length ct] 30)) := zal _ _
 refine (HPL.out _ hB (hg.below hB)).mono ?_
 rintro e w1 ⟨_, rfl, ⟨v, rfl, hrd⟩, hb1⟩
 have HRD := Lib.hid hrd
 obtain ⟨pv, cv, rfl, -, -, -⟩ := hrd.open
 rw [List.length_map] at HRD ⊢
 clear hrd
 go_wp2_with fail
 go_ret2
 exact ⟨_, rfl, ⟨_, rfl, HRD.out⟩, hB.trans (hb1.mono hB.size)⟩
theorem fconst_number (w : World) (vp vt : Value) (P : List PtQ) (T : List Tri) (hp : RdP w vp (strP P)) (ht : RdT w vt T) (hm : MeshOK P T 2) (s : ByteArray) (hs : s.size < 1000000000) (he : rightQ s.data.toList = false) (hg : Good w) :
 Calls Tryz.prog 30 #[.agg #[vp, vt], .string s] w (Ret (fun r _ => r = .tuple #[.slice none 0 0, .int .i64 2]) w) := by
 have HPL : Hid (∀ w', Below w.heap.size w w' → Good w' → Calls Tryz.prog 31 #[.agg #[vp, vt], .agg #[.string ⟨#[48]⟩, .string ⟨#[48]⟩], .string s] w' (Ret (fun r _ => r = .tuple #[.slice none 0 0, .int .i64 2]) w')) := fun w' hb hg =>
  fplane_number w' vp vt P T (RdC.below hp hb) (RdC.below ht hb) hm ⟨#[48]⟩ ⟨#[48]⟩ s (by decide) (by decide) hs (by unfold allQ; simp [he]) hg
 obtain ⟨pp, cp, rfl, -, -, -⟩ := hp.open
 obtain ⟨pt, ct, rfl, -, -, -⟩ := ht.open
 rw [strP_length] at *
 clear hp ht hm he
 go_enter Tryz.func30, Tryz.ntmps30
 go_wp2_with fail
 have hB : Below w.heap.size w (w.alloc (.cells #[.slice pp P.length cp, .slice pt T.length ct] 30)) := zal _ _
 refine (HPL.out _ hB (hg.below hB)).mono ?_
 rintro e w1 ⟨_, rfl, rfl, hb1⟩
 go_wp2_with fail
 go_ret2
 exact ⟨_, rfl, rfl, hB.trans (hb1.mono hB.size)⟩
theorem fieldMakes_long (w : World) (kz s0 s1 : Int) (half : Bool) (x0 x1 x2 : ByteArray) (hl : 40 < x0.size ∨ (x0.size ≤ 40 ∧ 40 < x1.size) ∨ (x0.size ≤ 40 ∧ x1.size ≤ 40 ∧ 40 < x2.size)) (hg : Good w) :
 Calls Tryz.prog 6 #[.agg #[.int .u8 kz, .int .i8 s0, .int .i8 s1, .bool half], .agg #[.string x0, .string x1], .string x2] w (Ret (fun r _ => r = .bool true) w) := by
 go_enter Tryz.func6, Tryz.ntmps6
 go_wp2_with fail
 obtain ⟨W, hW⟩ : ∃ W, W = (w.alloc (.cells #[.int .u8 kz, .int .i8 s0, .int .i8 s1, .bool half] 25)).alloc (.cells #[.string x0, .string x1] 59) := ⟨_, rfl⟩
 have hB : Below w.heap.size w W := by rw [hW]; exact zal2 _ _ _
 have by4 : BoxN W (w.heap.size + 1) 59 [.string x0, .string x1] := by rw [hW]; exact BoxN.new _ _ _ _ (by simp)
 have bx : BoxN W w.heap.size 25 [.int .u8 kz, .int .i8 s0, .int .i8 s1, .bool half] := by
  rw [hW]
  have h1 := BoxN.new w #[.int .u8 kz, .int .i8 s0, .int .i8 s1, .bool half] 25 _ rfl
  exact h1.below (zal _ _) h1.lt
 rw [← hW]
 clear hW
 refine (known13_any W (hg.below hB)).mono ?_
 rintro e o1 ⟨_, rfl, rfl, hb1⟩
 have hB1 := hB.trans (hb1.mono hB.size)
 have bx1 := bx.below hb1 bx.lt
 have by41 := by4.below hb1 by4.lt
 clear hb1 hB bx by4
 have p0 := by41.cell 0 rfl
 have p1 := by41.cell 1 rfl
 rcases hl with h1 | ⟨h1, h2⟩ | ⟨h1, h2, h3⟩
 ·have h1d : decide ((40 : Int) < (x0.size : Int)) = true := decide_eq_true (by omega)
  go_wp2_with fail
  refine (known13_any o1 (hg.below hB1)).mono ?_
  rintro e o2 ⟨_, rfl, rfl, hb2⟩
  go_wp2_with fail
  go_ret
  exact ⟨_, rfl, rfl, hB1.trans (hb2.mono hB1.size)⟩
 ·have h1d : decide ((40 : Int) < (x0.size : Int)) = false := decide_eq_false (by omega)
  have h2d : decide ((40 : Int) < (x1.size : Int)) = true := decide_eq_true (by omega)
  go_wp2_with fail
  refine (known13_any o1 (hg.below hB1)).mono ?_
  rintro e o2 ⟨_, rfl, rfl, hb2⟩
  go_wp2_with fail
  go_ret
  exact ⟨_, rfl, rfl, hB1.trans (hb2.mono hB1.size)⟩
 ·have h1d : decide ((40 : Int) < (x0.size : Int)) = false := decide_eq_false (by omega)
  have h2d : decide ((40 : Int) < (x1.size : Int)) = false := decide_eq_false (by omega)
  have h3d : decide ((40 : Int) < (x2.size : Int)) = true := decide_eq_true (by omega)
  go_wp2_with fail
  refine (known13_any o1 (hg.below hB1)).mono ?_
  rintro e o2 ⟨_, rfl, rfl, hb2⟩
  go_wp2_with fail
  go_ret
  exact ⟨_, rfl, rfl, hB1.trans (hb2.mono hB1.size)⟩
theorem fieldMakes_number (w : World) (kz s0 s1 : Int) (half : Bool) (x0 x1 x2 : ByteArray) (h0 : x0.size ≤ 40) (h1 : x1.size ≤ 40) (h2 : x2.size ≤ 40) (P : List PtQ) (T : List Tri) (n : Nat) (hn : P.length = n) (_hn6 : n ≤ 6) (_hm : MeshOK P T 2)
 (HMK : Hid (∀ w, Good w → Calls Tryz.prog 9 #[.agg #[.int .u8 kz, .int .i8 s0, .int .i8 s1, .bool half]] w (Ret (fun r w' => ∃ vp vt, r = .agg #[vp, vt] ∧ RdP w' vp (strP P) ∧ RdT w' vt T) w)))
 (HCN : Hid (∀ w vp vt, RdP w vp (strP P) → RdT w vt T → Good w → Calls Tryz.prog 30 #[.agg #[vp, vt], .string x2] w (Ret (fun r _ => r = .tuple #[.slice none 0 0, .int .i64 2]) w)))
 (HPL : Hid (∀ w vp vt, RdP w vp (strP P) → RdT w vt T → Good w → Calls Tryz.prog 31 #[.agg #[vp, vt], .agg #[.string x0, .string x1], .string x2] w (Ret (fun r _ => r = .tuple #[.slice none 0 0, .int .i64 2]) w)))
 (HRZ : Hid (∀ w, Good w → Calls Tryz.prog 32 #[.string x2] w (Ret (fun r _ => r = .bool false) w))) (hg : Good w) :
 Calls Tryz.prog 6 #[.agg #[.int .u8 kz, .int .i8 s0, .int .i8 s1, .bool half], .agg #[.string x0, .string x1], .string x2] w (Ret (fun r _ => r = .bool true) w) := by
 go_enter Tryz.func6, Tryz.ntmps6
 go_wp2_with fail
 obtain ⟨W, hW⟩ : ∃ W, W = (w.alloc (.cells #[.int .u8 kz, .int .i8 s0, .int .i8 s1, .bool half] 25)).alloc (.cells #[.string x0, .string x1] 59) := ⟨_, rfl⟩
 have hB : Below w.heap.size w W := by rw [hW]; exact zal2 _ _ _
 have by4 : BoxN W (w.heap.size + 1) 59 [.string x0, .string x1] := by rw [hW]; exact BoxN.new _ _ _ _ (by simp)
 have bx : BoxN W w.heap.size 25 [.int .u8 kz, .int .i8 s0, .int .i8 s1, .bool half] := by
  rw [hW]
  have h1 := BoxN.new w #[.int .u8 kz, .int .i8 s0, .int .i8 s1, .bool half] 25 _ rfl
  exact h1.below (zal _ _) h1.lt
 rw [← hW]
 clear hW
 refine (known13_any W (hg.below hB)).mono ?_
 rintro e o1 ⟨_, rfl, rfl, hb1⟩
 have hB1 := hB.trans (hb1.mono hB.size)
 have bx1 := bx.below hb1 bx.lt
 have by41 := by4.below hb1 by4.lt
 clear hb1 hB bx by4
 have p0 := by41.cell 0 rfl
 have p1 := by41.cell 1 rfl
 have k0 := bx1.cell 0 rfl
 have k1 := bx1.cell 1 rfl
 have k2 := bx1.cell 2 rfl
 have k3 := bx1.cell 3 rfl
 have h0d : decide ((40 : Int) < (x0.size : Int)) = false := decide_eq_false (by omega)
 have h1d : decide ((40 : Int) < (x1.size : Int)) = false := decide_eq_false (by omega)
 have h2d : decide ((40 : Int) < (x2.size : Int)) = false := decide_eq_false (by omega)
 go_wp2_with fail
 refine (HMK.out o1 (hg.below hB1)).mono ?_
 rintro e o2 ⟨_, rfl, ⟨vp, vt, rfl, hp, ht⟩, hb2⟩
 have hB2 := hB1.trans (hb2.mono hB1.size)
 have by2 := by41.below hb2 by41.lt
 obtain ⟨pp, cp, rfl, -, -, hpr⟩ := hp.open
 obtain ⟨pt, ct, rfl, -, -, -⟩ := ht.open
 rw [strP_length, hn] at hp ⊢
 clear hb2 hB1 bx1 by41 k0 k1 k2 k3 p0 p1 HMK h0d h1d h2d hpr
 go_upto_region 4 with fail
 obtain ⟨o3, ho3⟩ : ∃ W, W = o2.alloc (.cells #[.slice pp n cp, .slice pt T.length ct] 30) := ⟨_, rfl⟩
 have h23 : Below o2.heap.size o2 o3 := by rw [ho3]; exact zal _ _
 have b7 : BoxN o3 o2.heap.size 30 [.slice pp n cp, .slice pt T.length ct] := by rw [ho3]; exact BoxN.new _ _ _ _ rfl
 have hB3 := hB2.trans (h23.mono hB2.size)
 have by3 := by2.below h23 by2.lt
 have HPT : Hid (∀ w', Below o3.heap.size o3 w' → RdP w' (.slice pp n cp) (strP P) ∧ RdT w' (.slice pt T.length ct) T) := fun w' hb => ⟨RdC.below (RdC.below hp h23) hb, RdC.below (RdC.below ht h23) hb⟩
 rw [← ho3]
 clear ho3 hp ht by2
 have m0 := b7.cell 0 rfl
 have m1 := b7.cell 1 rfl
 go_wp2_with fail
 refine (HCN.out o3 _ _ (HPT.out _ (Below.refl _ _)).1 (HPT.out _ (Below.refl _ _)).2 (hg.below hB3)).mono ?_
 rintro e o4 ⟨_, rfl, rfl, hb4⟩
 have hB4 := hB3.trans (hb4.mono hB3.size)
 have b74 := b7.below hb4 b7.lt
 have by44 := by3.below hb4 by3.lt
 clear m0 m1 b7 by3
 have m0 := b74.cell 0 rfl
 have m1 := b74.cell 1 rfl
 have p0 := by44.cell 0 rfl
 have p1 := by44.cell 1 rfl
 go_wp2_with fail
 refine (HPL.out o4 _ _ (HPT.out _ hb4).1 (HPT.out _ hb4).2 (hg.below hB4)).mono ?_
 rintro e o5 ⟨_, rfl, rfl, hb5⟩
 have hB5 := hB4.trans (hb5.mono hB4.size)
 have b75 := b74.below hb5 b74.lt
 have by55 := by44.below hb5 by44.lt
 clear m0 m1 p0 p1 b74 by44
 go_wp2_with fail
 refine (HRZ.out o5 (hg.below hB5)).mono ?_
 rintro e o6 ⟨_, rfl, rfl, hb6⟩
 have hB6 := hB5.trans (hb6.mono hB5.size)
 go_wp2_with fail
 go_ret
 exact ⟨_, rfl, rfl, hB6⟩
theorem fieldMakes_slope (w : World) (kz s0 s1 : Int) (half : Bool) (x0 x1 : ByteArray) (z : Rat) (h0 : x0.size ≤ 40) (h1 : x1.size ≤ 40) (h2 : (RS z).size ≤ 40) (P : List PtQ) (T : List Tri) (n : Nat) (hn : P.length = n) (_hn6 : n ≤ 6) (_hm : MeshOK P T 2)
 (HMK : Hid (∀ w, Good w → Calls Tryz.prog 9 #[.agg #[.int .u8 kz, .int .i8 s0, .int .i8 s1, .bool half]] w (Ret (fun r w' => ∃ vp vt, r = .agg #[vp, vt] ∧ RdP w' vp (strP P) ∧ RdT w' vt T) w)))
 (HCN : Hid (∀ w vp vt, RdP w vp (strP P) → RdT w vt T → Good w → Calls Tryz.prog 30 #[.agg #[vp, vt], .string (RS z)] w (Ret (fun r w' => ∃ v, r = .tuple #[v, .int .i64 0] ∧ RdQ w' v (P.map fun _ => z)) w)))
 (HPL : Hid (∀ w vp vt, RdP w vp (strP P) → RdT w vt T → Good w → Calls Tryz.prog 31 #[.agg #[vp, vt], .agg #[.string x0, .string x1], .string (RS z)] w (Ret (fun r _ => r = .tuple #[.slice none 0 0, .int .i64 2]) w)))
 (HRZ : Hid (∀ w, Good w → Calls Tryz.prog 32 #[.string (RS z)] w (Ret (fun r _ => r = .bool true) w)))
 (HRP : Hid (∀ w, Good w → Calls Tryz.prog 22 #[.agg #[.string x0, .string x1]] w (Ret (fun r _ => r = .bool false) w))) (hg : Good w) :
 Calls Tryz.prog 6 #[.agg #[.int .u8 kz, .int .i8 s0, .int .i8 s1, .bool half], .agg #[.string x0, .string x1], .string (RS z)] w (Ret (fun r _ => r = .bool true) w) := by
 have HZL : Hid ((P.map fun _ => z).length = n) := by unfold Hid; rw [List.length_map, hn]
 generalize (P.map fun _ => z) = ZL at *
 go_enter Tryz.func6, Tryz.ntmps6
 go_wp2_with fail
 obtain ⟨W, hW⟩ : ∃ W, W = (w.alloc (.cells #[.int .u8 kz, .int .i8 s0, .int .i8 s1, .bool half] 25)).alloc (.cells #[.string x0, .string x1] 59) := ⟨_, rfl⟩
 have hB : Below w.heap.size w W := by rw [hW]; exact zal2 _ _ _
 have by4 : BoxN W (w.heap.size + 1) 59 [.string x0, .string x1] := by rw [hW]; exact BoxN.new _ _ _ _ (by simp)
 have bx : BoxN W w.heap.size 25 [.int .u8 kz, .int .i8 s0, .int .i8 s1, .bool half] := by
  rw [hW]
  have h1 := BoxN.new w #[.int .u8 kz, .int .i8 s0, .int .i8 s1, .bool half] 25 _ rfl
  exact h1.below (zal _ _) h1.lt
 rw [← hW]
 clear hW
 refine (known13_any W (hg.below hB)).mono ?_
 rintro e o1 ⟨_, rfl, rfl, hb1⟩
 have hB1 := hB.trans (hb1.mono hB.size)
 have bx1 := bx.below hb1 bx.lt
 have by41 := by4.below hb1 by4.lt
 clear hb1 hB bx by4
 have p0 := by41.cell 0 rfl
 have p1 := by41.cell 1 rfl
 have k0 := bx1.cell 0 rfl
 have k1 := bx1.cell 1 rfl
 have k2 := bx1.cell 2 rfl
 have k3 := bx1.cell 3 rfl
 have h0d : decide ((40 : Int) < (x0.size : Int)) = false := decide_eq_false (by omega)
 have h1d : decide ((40 : Int) < (x1.size : Int)) = false := decide_eq_false (by omega)
 have h2d : decide ((40 : Int) < ((RS z).size : Int)) = false := decide_eq_false (by omega)
 go_wp2_with fail
 refine (HMK.out o1 (hg.below hB1)).mono ?_
 rintro e o2 ⟨_, rfl, ⟨vp, vt, rfl, hp, ht⟩, hb2⟩
 have hB2 := hB1.trans (hb2.mono hB1.size)
 have by2 := by41.below hb2 by41.lt
 obtain ⟨pp, cp, rfl, -, -, hpr⟩ := hp.open
 obtain ⟨pt, ct, rfl, -, -, -⟩ := ht.open
 rw [strP_length, hn] at hp ⊢
 clear hb2 hB1 bx1 by41 k0 k1 k2 k3 p0 p1 HMK h0d h1d h2d hpr
 go_upto_region 4 with fail
 obtain ⟨o3, ho3⟩ : ∃ W, W = o2.alloc (.cells #[.slice pp n cp, .slice pt T.length ct] 30) := ⟨_, rfl⟩
 have h23 : Below o2.heap.size o2 o3 := by rw [ho3]; exact zal _ _
 have b7 : BoxN o3 o2.heap.size 30 [.slice pp n cp, .slice pt T.length ct] := by rw [ho3]; exact BoxN.new _ _ _ _ rfl
 have hB3 := hB2.trans (h23.mono hB2.size)
 have by3 := by2.below h23 by2.lt
 have HPT : Hid (∀ w', Below o3.heap.size o3 w' → RdP w' (.slice pp n cp) (strP P) ∧ RdT w' (.slice pt T.length ct) T) := fun w' hb => ⟨RdC.below (RdC.below hp h23) hb, RdC.below (RdC.below ht h23) hb⟩
 rw [← ho3]
 clear ho3 hp ht by2
 have m0 := b7.cell 0 rfl
 have m1 := b7.cell 1 rfl
 go_wp2_with fail
 refine (HCN.out o3 _ _ (HPT.out _ (Below.refl _ _)).1 (HPT.out _ (Below.refl _ _)).2 (hg.below hB3)).mono ?_
 rintro e o4 ⟨_, rfl, ⟨va, rfl, hra⟩, hb4⟩
 have HRA := Lib.hid hra
 obtain ⟨pa, ca, rfl, -, -, har⟩ := hra.open
 rw [HZL.out] at HRA ⊢
 clear hra
 have hB4 := hB3.trans (hb4.mono hB3.size)
 have b74 := b7.below hb4 b7.lt
 have by44 := by3.below hb4 by3.lt
 clear m0 m1 b7 by3
 have m0 := b74.cell 0 rfl
 have m1 := b74.cell 1 rfl
 have p0 := by44.cell 0 rfl
 have p1 := by44.cell 1 rfl
 go_wp2_with fail
 refine (HPL.out o4 _ _ (HPT.out _ hb4).1 (HPT.out _ hb4).2 (hg.below hB4)).mono ?_
 rintro e o5 ⟨_, rfl, rfl, hb5⟩
 have hB5 := hB4.trans (hb5.mono hB4.size)
 have b75 := b74.below hb5 b74.lt
 have by55 := by44.below hb5 by44.lt
 clear m0 m1 p0 p1 b74 by44
 go_wp2_with fail
 refine (HRZ.out o5 (hg.below hB5)).mono ?_
 rintro e o6 ⟨_, rfl, rfl, hb6⟩
 have hB6 := hB5.trans (hb6.mono hB5.size)
 have b76 := b75.below hb6 b75.lt
 have by66 := by55.below hb6 by55.lt
 clear b75 by55
 have m0 := b76.cell 0 rfl
 have p0 := by66.cell 0 rfl
 have p1 := by66.cell 1 rfl
 have hnn : ((n : Int) != (n : Int)) = false := bne_self_eq_false _
 go_wp2_with fail
 refine (HRP.out o6 (hg.below hB6)).mono ?_
 rintro e o7 ⟨_, rfl, rfl, hb7⟩
 have hB7 := hB6.trans (hb7.mono hB6.size)
 go_wp2_with fail
 go_ret
 exact ⟨_, rfl, rfl, hB7⟩
theorem fieldMakes_right (w : World) (kz s0 s1 : Int) (half : Bool) (a b z : Rat) (za : Sz 40 a) (zb : Sz 40 b) (zz : Sz 40 z) (h0 : (RS a).size ≤ 40) (h1 : (RS b).size ≤ 40) (h2 : (RS z).size ≤ 40) (P : List PtQ) (T : List Tri) (n : Nat) (hn : P.length = n) (hn6 : n ≤ 6) (hm : MeshOK P T 2)
 (HMK : Hid (∀ w, Good w → Calls Tryz.prog 9 #[.agg #[.int .u8 kz, .int .i8 s0, .int .i8 s1, .bool half]] w (Ret (fun r w' => ∃ vp vt, r = .agg #[vp, vt] ∧ RdP w' vp (strP P) ∧ RdT w' vt T) w)))
 (HCN : Hid (∀ w vp vt, RdP w vp (strP P) → RdT w vt T → Good w → Calls Tryz.prog 30 #[.agg #[vp, vt], .string (RS z)] w (Ret (fun r w' => ∃ v, r = .tuple #[v, .int .i64 0] ∧ RdQ w' v (P.map fun _ => z)) w)))
 (HPL : Hid (∀ w vp vt, RdP w vp (strP P) → RdT w vt T → Good w → Calls Tryz.prog 31 #[.agg #[vp, vt], .agg #[.string (RS a), .string (RS b)], .string (RS z)] w (Ret (fun r w' => ∃ v, r = .tuple #[v, .int .i64 0] ∧ RdQ w' v (planeL a b z P)) w)))
 (HRZ : Hid (∀ w, Good w → Calls Tryz.prog 32 #[.string (RS z)] w (Ret (fun r _ => r = .bool true) w)))
 (HRP : Hid (∀ w, Good w → Calls Tryz.prog 22 #[.agg #[.string (RS a), .string (RS b)]] w (Ret (fun r _ => r = .bool true) w))) (hg : Good w) :
 Calls Tryz.prog 6 #[.agg #[.int .u8 kz, .int .i8 s0, .int .i8 s1, .bool half], .agg #[.string (RS a), .string (RS b)], .string (RS z)] w (Ret (fun r _ => r = .bool true) w) := by
 have hM2 : MeshOK P T 200 :=
  { kpos := by omega, klim := by omega, sz := fun p hp => ⟨(hm.sz p hp).1.mono (by omega), (hm.sz p hp).2.mono (by omega)⟩, plen := hm.plen, tlen := hm.tlen, idx := hm.idx, klim2 := by omega, some := hm.some, apart := hm.apart, turns := hm.turns, whole := hm.whole }
 have zD := planeL_Sz za zb zz hm.sz
 have hTW : sumQ (P.map fun _ => z) (planeL a b z P) = (planeL a b z P).map fun q => q + z := by
  unfold sumQ planeL
  apply List.ext_getElem
  ·simp
  ·intro i h1 h2
   simp only [List.getElem_zipWith, List.getElem_map]
   exact Rat.add_comm _ _
 have HAD : Hid (∀ w vp vt va vb, RdP w vp (strP P) → RdT w vt T → RdQ w va (P.map fun _ => z) → RdQ w vb (planeL a b z P) → Good w → Calls Tryz.prog 34 #[.agg #[vp, vt], va, vb] w (Ret (fun r w' => ∃ v, r = .tuple #[v, .int .i64 0] ∧ RdQ w' v ((planeL a b z P).map fun q => q + z)) w)) := fun w vp vt va vb hp ht h1 h2 hg => by
  refine (fadd_ok w vp vt va vb P T 200 _ _ ⟨hp, ht, hM2, h1, fun q hq => by obtain ⟨_, _, rfl⟩ := List.mem_map.1 hq; exact zz.mono (by omega), by simp⟩ ⟨hp, ht, hM2, h2, fun q hq => (zD q hq).mono (by omega), planeL_length ..⟩ ?_ hg).mono ?_
  ·rw [hTW]
   intro q hq
   obtain ⟨x, hx, rfl⟩ := List.mem_map.1 hq
   exact ((zD x hx).add zz).mono (by omega)
  ·rintro e w' ⟨r, rfl, ⟨v, rfl, h, -⟩, hb⟩
   rw [hTW] at h
   exact ⟨_, rfl, ⟨v, rfl, h⟩, hb⟩
 have HDG : Hid (∀ i (h : i < n), ∃ o q : PtQ × Rat, False ∨ True) := fun _ _ => ⟨((0, 0), 0), ((0, 0), 0), .inr trivial⟩
 have HPI : Hid (∀ i, i < n → ∃ o : PtQ, SzP 2 o ∧ P[i]? = some o ∧ (planeL a b z P)[i]? = some (planeQ a b z o)) := fun i h => ⟨P[i]'(by omega), hm.sz _ (List.getElem_mem _), List.getElem?_eq_getElem _, planeL_get a b z P i (by omega)⟩
 have HTD : Hid (∀ i q, (planeL a b z P)[i]? = some q → (planeL a b z P).take (i + 1) = (planeL a b z P).take i ++ [q]) := fun i q h => take_snoc _ _ _ h
 have HTT : Hid (∀ i q, (planeL a b z P)[i]? = some q → ((planeL a b z P).map fun q => q + z).take (i + 1) = ((planeL a b z P).map fun q => q + z).take i ++ [q + z]) := fun i q h => take_snoc _ _ _ (by rw [List.getElem?_map, h]; rfl)
 have HDL : Hid ((planeL a b z P).length = n) := by unfold Hid; rw [planeL_length, hn]
 have HTL : Hid (((planeL a b z P).map fun q => q + z).length = n) := by unfold Hid; rw [List.length_map, planeL_length, hn]
 have HZA := Lib.hid za
 have HZB := Lib.hid zb
 have HZZ := Lib.hid zz
 have HZQ : Hid (∀ o : PtQ, SzP 2 o → Sz 130 (planeQ a b z o)) := fun o ho => planeQ_Sz za zb zz ho
 have HVQ : Hid (∀ o : PtQ, a * o.1 + b * o.2 - -z = planeQ a b z o) := fun o => by unfold planeQ; grind
 have zsz := zz.size (by omega)
 have HNG : Hid (∀ w, Good w → _) := fun w _ => (negQ_any z (by omega) w).mono fun _ _ h => h.ret
 have hzn : Sz 40 (-z) := zz.neg
 have HZN := Lib.hid hzn
 clear zD hTW hM2 za zb zz zsz hzn HDG
 have HZL : Hid ((P.map fun _ => z).length = n) := by unfold Hid; rw [List.length_map, hn]
 have HZC : Hid (∀ i, i < n → (P.map fun _ => z)[i]? = some z) := fun i h => by rw [List.getElem?_map, List.getElem?_eq_getElem (by omega)]; rfl
 generalize planeL a b z P = D at *
 generalize (P.map fun _ => z) = ZL at *
 generalize (D.map fun q => q + z) = TW at *
 clear hm
 go_enter Tryz.func6, Tryz.ntmps6
 go_wp2_with fail
 obtain ⟨W, hW⟩ : ∃ W, W = (w.alloc (.cells #[.int .u8 kz, .int .i8 s0, .int .i8 s1, .bool half] 25)).alloc (.cells #[.string (RS a), .string (RS b)] 59) := ⟨_, rfl⟩
 have hB : Below w.heap.size w W := by rw [hW]; exact zal2 _ _ _
 have by4 : BoxN W (w.heap.size + 1) 59 [.string (RS a), .string (RS b)] := by rw [hW]; exact BoxN.new _ _ _ _ (by simp)
 have bx : BoxN W w.heap.size 25 [.int .u8 kz, .int .i8 s0, .int .i8 s1, .bool half] := by
  rw [hW]
  have h1 := BoxN.new w #[.int .u8 kz, .int .i8 s0, .int .i8 s1, .bool half] 25 _ rfl
  exact h1.below (zal _ _) h1.lt
 rw [← hW]
 clear hW
 refine (known13_any W (hg.below hB)).mono ?_
 rintro e o1 ⟨_, rfl, rfl, hb1⟩
 have hB1 := hB.trans (hb1.mono hB.size)
 have bx1 := bx.below hb1 bx.lt
 have by41 := by4.below hb1 by4.lt
 clear hb1 hB bx by4
 have p0 := by41.cell 0 rfl
 have p1 := by41.cell 1 rfl
 have k0 := bx1.cell 0 rfl
 have k1 := bx1.cell 1 rfl
 have k2 := bx1.cell 2 rfl
 have k3 := bx1.cell 3 rfl
 have h0d : decide ((40 : Int) < ((RS a).size : Int)) = false := decide_eq_false (by omega)
 have h1d : decide ((40 : Int) < ((RS b).size : Int)) = false := decide_eq_false (by omega)
 have h2d : decide ((40 : Int) < ((RS z).size : Int)) = false := decide_eq_false (by omega)
 go_wp2_with fail
 refine (HMK.out o1 (hg.below hB1)).mono ?_
 rintro e o2 ⟨_, rfl, ⟨vp, vt, rfl, hp, ht⟩, hb2⟩
 have hB2 := hB1.trans (hb2.mono hB1.size)
 have by2 := by41.below hb2 by41.lt
 obtain ⟨pp, cp, rfl, -, -, hpr⟩ := hp.open
 obtain ⟨pt, ct, rfl, -, -, -⟩ := ht.open
 rw [strP_length, hn] at hp ⊢
 have HPR : Hid (∀ i, i < n → ∀ o : PtQ, P[i]? = some o → ∃ bp op : Nat, pp = some ⟨bp, op, none⟩ ∧ bp < o2.heap.size ∧ o2.cell? ⟨bp, op + i * 2, none⟩ = some (.string (RS o.1)) ∧ o2.cell? ⟨bp, op + i * 2 + 1, none⟩ = some (.string (RS o.2))) := fun i h o ho => by
  obtain ⟨bp, op, h1, h2, h3⟩ := hpr (by intro e; have h := strP_length P; rw [e] at h; simp at h; omega)
  obtain ⟨ex, ey⟩ := h3 i (by rw [strP_length]; omega)
  obtain ⟨hlt, rfl⟩ := List.getElem?_eq_some_iff.1 ho
  rw [strP_get P i hlt] at ex ey
  exact ⟨bp, op, h1, h2, ex, ey⟩
 clear hb2 hB1 bx1 by41 k0 k1 k2 k3 p0 p1 HMK h0d h1d h2d hpr
 go_upto_region 4 with fail
 obtain ⟨o3, ho3⟩ : ∃ W, W = o2.alloc (.cells #[.slice pp n cp, .slice pt T.length ct] 30) := ⟨_, rfl⟩
 have h23 : Below o2.heap.size o2 o3 := by rw [ho3]; exact zal _ _
 have b7 : BoxN o3 o2.heap.size 30 [.slice pp n cp, .slice pt T.length ct] := by rw [ho3]; exact BoxN.new _ _ _ _ rfl
 have hB3 := hB2.trans (h23.mono hB2.size)
 have by3 := by2.below h23 by2.lt
 have HPT : Hid (∀ w', Below o3.heap.size o3 w' → RdP w' (.slice pp n cp) (strP P) ∧ RdT w' (.slice pt T.length ct) T) := fun w' hb => ⟨RdC.below (RdC.below hp h23) hb, RdC.below (RdC.below ht h23) hb⟩
 rw [← ho3]
 clear ho3 hp ht by2
 have m0 := b7.cell 0 rfl
 have m1 := b7.cell 1 rfl
 go_wp2_with fail
 refine (HCN.out o3 _ _ (HPT.out _ (Below.refl _ _)).1 (HPT.out _ (Below.refl _ _)).2 (hg.below hB3)).mono ?_
 rintro e o4 ⟨_, rfl, ⟨va, rfl, hra⟩, hb4⟩
 have HRA := Lib.hid hra
 obtain ⟨pa, ca, rfl, -, -, har⟩ := hra.open
 rw [HZL.out] at HRA ⊢
 clear hra
 have hB4 := hB3.trans (hb4.mono hB3.size)
 have b74 := b7.below hb4 b7.lt
 have by44 := by3.below hb4 by3.lt
 clear m0 m1 b7 by3
 have m0 := b74.cell 0 rfl
 have m1 := b74.cell 1 rfl
 have p0 := by44.cell 0 rfl
 have p1 := by44.cell 1 rfl
 go_wp2_with fail
 refine (HPL.out o4 _ _ (HPT.out _ hb4).1 (HPT.out _ hb4).2 (hg.below hB4)).mono ?_
 rintro e o5 ⟨_, rfl, ⟨vb, rfl, hrb⟩, hb5⟩
 have HRB := Lib.hid hrb
 obtain ⟨pb, cb, rfl, -, -, -⟩ := hrb.open
 rw [HDL.out] at HRB ⊢
 clear hrb
 have hB5 := hB4.trans (hb5.mono hB4.size)
 have b75 := b74.below hb5 b74.lt
 have by55 := by44.below hb5 by44.lt
 clear m0 m1 p0 p1 b74 by44
 go_wp2_with fail
 refine (HRZ.out o5 (hg.below hB5)).mono ?_
 rintro e o6 ⟨_, rfl, rfl, hb6⟩
 have hB6 := hB5.trans (hb6.mono hB5.size)
 have b76 := b75.below hb6 b75.lt
 have by66 := by55.below hb6 by55.lt
 clear b75 by55
 have m0 := b76.cell 0 rfl
 have p0 := by66.cell 0 rfl
 have p1 := by66.cell 1 rfl
 have hnn : ((n : Int) != (n : Int)) = false := bne_self_eq_false _
 go_wp2_with fail
 refine (HRP.out o6 (hg.below hB6)).mono ?_
 rintro e o7 ⟨_, rfl, rfl, hb7⟩
 have hB7 := hB6.trans (hb7.mono hB6.size)
 have b77 := b76.below hb7 b76.lt
 have by77 := by66.below hb7 by66.lt
 have h47 : Below o4.heap.size o4 o7 := hb5.trans ((hb6.trans (hb7.mono hb6.size)).mono hb5.size)
 have h37 : Below o3.heap.size o3 o7 := hb4.trans (h47.mono hb4.size)
 have h27 : Below o2.heap.size o2 o7 := h23.trans (h37.mono h23.size)
 have HRA7 := Lib.hid (RdC.below HRA.out h47)
 have HRB7 := Lib.hid (RdC.below HRB.out (hb6.trans (hb7.mono hb6.size)))
 have hpt7 := HPT.out _ h37
 have HP7 := Lib.hid hpt7.1
 have HT7 := Lib.hid hpt7.2
 have HPA : Hid (∀ i, i < n → ∃ ba oa : Nat, pa = some ⟨ba, oa, none⟩ ∧ ba < o7.heap.size ∧ o7.cell? ⟨ba, oa + i, none⟩ = some (.string (RS z))) := fun i h => by
  obtain ⟨ba, oa, h1, h2, h3⟩ := har (List.ne_nil_of_length_pos (by rw [HZL.out]; omega))
  have hz := HZC.out i h
  obtain ⟨hlt, hz'⟩ := List.getElem?_eq_some_iff.1 hz
  refine ⟨ba, oa, h1, Nat.lt_of_lt_of_le h2 h47.size, (h47.cell (p := ⟨ba, oa + i, none⟩) h2).trans ?_⟩
  rw [h3 i hlt, hz']
 have HPR7 : Hid (∀ i, i < n → ∀ o : PtQ, P[i]? = some o → ∃ bp op : Nat, pp = some ⟨bp, op, none⟩ ∧ bp < o7.heap.size ∧ o7.cell? ⟨bp, op + i * 2, none⟩ = some (.string (RS o.1)) ∧ o7.cell? ⟨bp, op + i * 2 + 1, none⟩ = some (.string (RS o.2))) := fun i h o ho => by
  obtain ⟨bp, op, h1, h2, h3, h4⟩ := HPR.out i h o ho
  exact ⟨bp, op, h1, Nat.lt_of_lt_of_le h2 h27.size, (zcq h27 h2 h3 :), (zcq h27 h2 h4 :)⟩
 obtain ⟨i0, hi, hz0, hz1, hz2⟩ := info_parts info_str
 clear m0 p0 p1 b76 by66 hb4 hb5 hb6 hb7 h47 h37 h27 hpt7 har h23 HPR HRA HRB HPT hB2 hB3 hB4 hB5 hB6 hnn
 go_wp2_with fail
 go_loopw [12, 13, 14] (fun t12 t13 t14 wr => ∃ i : Nat, t14 = .int .i64 i ∧ i ≤ n ∧ wr.ownsRow o7.heap.size 32 1 t12 i ((D.take i).map fun q => Value.string (RS q)) ∧ wr.ownsRow o7.heap.size 32 1 t13 i ((TW.take i).map fun q => Value.string (RS q)) ∧ Hid (t12.ownBlock = none ∨ t12.ownBlock ≠ t13.ownBlock) ∧ Below o7.heap.size o7 wr) (fun _ _ t14 _ => n - (RowKit.intOf t14).toNat)
 case atStart => exact ⟨0, rfl, Nat.zero_le _, World.ownsRow_nil _ _ _ _, World.ownsRow_nil _ _ _ _, .inl rfl, Below.refl _ _⟩
 case round =>
  obtain ⟨i, rfl, hin, hown, hown2, hap, hbr⟩ := hrel
  obtain ⟨p12, c12, rfl⟩ := ownsRow_shape hown
  obtain ⟨p13, c13, rfl⟩ := ownsRow_shape hown2
  have hBr := hB7.trans (hbr.mono hB7.size)
  have hzr := hbr.size
  have b7r := b77.below hbr b77.lt
  have m0 := b7r.cell 0 rfl
  have m1 := b7r.cell 1 rfl
  rcases Nat.lt_or_ge i n with hlt | hlt
  ·obtain ⟨ba, oa, rfl, hba, xa⟩ := HPA.out i hlt
   obtain ⟨o, zo, hPo, hDo⟩ := HPI.out i hlt
   obtain ⟨bp, op, rfl, hbp, ex, ey⟩ := HPR7.out i hlt o hPo
   have hiz : (i : Int) < (n : Int) := by omega
   have hw1 : IntKind.i64.wrap ((i : Int) + 1) = (i : Int) + 1 := IntWalk.i64_in _ (by omega)
   have HT1 := Lib.hid (HTD.out i _ hDo)
   have HT2 := Lib.hid (HTT.out i _ hDo)
   have HV : Hid (∀ w, Good w → _) := fun w hg => value05_any a b (-z) o 40 (by omega) (by omega) HZA.out HZB.out HZN.out ⟨zo.1.mono (by omega), zo.2.mono (by omega)⟩ w hg
   rw [HVQ.out o] at HV
   have HA : Hid (∀ w, Good w → _) := fun w hg => addQ_any (planeQ a b z o) z 130 (by omega) (by omega) (HZQ.out o zo) (HZZ.out.mono (by omega)) w hg
   generalize planeQ a b z o = q at *
   generalize q + z = qz at *
   have by7r := by77.below hbr by77.lt
   have p0 := by7r.cell 0 rfl
   have p1 := by7r.cell 1 rfl
   have xa' := zcq hbr hba xa
   have x0' := zcq hbr hbp ex
   have x1' := zcq hbr hbp ey
   have lp := by7r.lt
   have lm := b7r.lt
   have lbp : bp < wr.heap.size := Nat.lt_of_lt_of_le hbp hzr
   have hgd : Good wr.drew := (hg.below hBr).drewN 1
   clear hPo hDo zo ex ey xa
   go_upto_region 18 with fail
   go_cut [15] (fun s15 wx => s15 = .string (RS q) ∧ Below wr.heap.size wr wx)
   case first =>
    go_region_held3 (fun w' => w'.cell? ⟨w.heap.size + 1, 0, none⟩ = some (.string (RS a)) ∧ w'.cell? ⟨w.heap.size + 1, 1, none⟩ = some (.string (RS b)) ∧ w'.cell? ⟨o2.heap.size, 0, none⟩ = some (.slice (some ⟨bp, op, none⟩) n cp) ∧ w'.cell? ⟨bp, op + i * 2, none⟩ = some (.string (RS o.1)) ∧ w'.cell? ⟨bp, op + i * 2 + 1, none⟩ = some (.string (RS o.2)))
     (first | exact ⟨p0, p1, m0, x0', x1'⟩ | exact ⟨p_1_0, p_1_1, p_1_2, p_1_3, p_1_4⟩ | exact ⟨p_2_0, p_2_1, p_2_2, p_2_3, p_2_4⟩)
     (first
     | (go_at_call 33; refine (HV.out _ pg1).mono ?_; rintro e pw2 ⟨_, rfl, rfl, pb2⟩
        have p_2_0 := zct pb2 p_1_0
        have p_2_1 := zct pb2 p_1_1
        have p_2_2 := zct pb2 p_1_2
        have p_2_3 := zct pb2 p_1_3
        have p_2_4 := zct pb2 p_1_4
        have ps2 : pw1.heap.size ≤ pw2.heap.size := pb2.size
        have pg2 : Good pw2 := pg1.below pb2)
     | (go_at_call 29; refine (HNG.out _ hgd).mono ?_; rintro e pw1 ⟨_, rfl, rfl, pb1⟩
        have p_1_0 := zct pb1 p0
        have p_1_1 := zct pb1 p1
        have p_1_2 := zct pb1 m0
        have p_1_3 := zct pb1 x0'
        have p_1_4 := zct pb1 x1'
        have ps1 : wr.heap.size ≤ pw1.heap.size := pb1.size
        have pg1 : Good pw1 := hgd.below pb1))
    have pB : Below wr.heap.size wr pw2 := zbt (zbt (below_drewN wr 1) pb1) pb2
    go_wp2_with fail
    go_meet
    exact ⟨rfl, pB⟩
   case rest =>
   obtain ⟨rfl, hb1⟩ := hcut
   have hb8 := hbr.trans (hb1.mono hzr)
   have hB8 := hB7.trans (hb8.mono hB7.size)
   have hownc := World.ownsRow.belowAll hown hb1
   have hownc2 := World.ownsRow.belowAll hown2 hb1
   have hz8 := hb8.size
   clear hown hown2 hb1 hbr hBr p0 p1 m0 m1 x0' x1' xa' by7r b7r lp lm lbp hgd HV hzr
   go_wp2_with (at_builtin; refine wpList_append_own_at _ rfl _ _ 61 rfl o7.heap.size 32 i0 (.string ⟨#[]⟩) 1 16 Tryz.underlying61 hi hz0 hz1 hz2 rfl (by decide) _ _ _ rfl (hownc.alloc _) ⟨wc.heap.size, 0, none⟩ 1 1 [.string (RS q)] rfl rfl (cell_one_str _ _ _) (one_cell_str _) (by unfold maxLen; omega) (by omega) (by simp; omega) ?_
                intro v12 w8 hown8 hgrow8 _ hat8
                have hbr8 : Below o7.heap.size o7 w8 := (hb8.alloc (by omega) _).grown hgrow8 (by simp; omega) (fun j hj => by have := (hownc.lt j hj).1; omega)
                have hown82 := (hownc2.alloc _).kept hgrow8 (apart_flip hap.out)
                have hap8 := apart_flip (apart_next' (apart_flip hap.out) hat8 (hownc2.lt) (by simp)).out
                obtain ⟨p12', c12', rfl⟩ := ownsRow_shape hown8
                clear hgrow8 hat8 hownc hownc2 hb8)
   have hB9 := hB7.trans (hbr8.mono hB7.size)
   refine (HA.out _ (hg.below hB9)).mono ?_
   rintro e w9 ⟨_, rfl, rfl, hb9⟩
   have hbr9 := hbr8.trans (hb9.mono hbr8.size)
   have hown9 := World.ownsRow.belowAll hown8 hb9
   have hown92 := World.ownsRow.belowAll hown82 hb9
   have hz9 := hbr9.size
   clear hown8 hown82 hb9 hbr8
   go_wp2_with (at_builtin; refine wpList_append_own_at _ rfl _ _ 61 rfl o7.heap.size 32 i0 (.string ⟨#[]⟩) 1 16 Tryz.underlying61 hi hz0 hz1 hz2 rfl (by decide) _ _ _ rfl (hown92.alloc _) ⟨w9.heap.size, 0, none⟩ 1 1 [.string (RS qz)] rfl rfl (cell_one_str _ _ _) (one_cell_str _) (by unfold maxLen; omega) (by omega) (by simp; omega) ?_
                intro v13 w10 hown10 hgrow10 _ hat10
                have hbr10 : Below o7.heap.size o7 w10 := (hbr9.alloc (by omega) _).grown hgrow10 (by simp; omega) (fun j hj => by have := (hown92.lt j hj).1; omega)
                have hown101 := (hown9.alloc _).kept hgrow10 hap8
                have hap10 := apart_next' hap8 hat10 (hown9.lt) (by simp)
                clear hgrow10 hat10 hown9 hown92 hbr9)
   go_roundw
   case rel => exact ⟨i + 1, by go_num, by omega, by rw [HT1.out, List.map_append]; exact hown101, by rw [HT2.out, List.map_append]; exact hown10, hap10, hbr10⟩
   case measure => simp [RowKit.intOf]; omega
  ·obtain rfl : i = n := by omega
   have HW := Lib.hid (row_rd hown HDL.out)
   have HTW := Lib.hid (row_rd hown2 HTL.out)
   have HB := Lib.hid (RdC.below HRB7.out hbr)
   have hra := RdC.below HRA7.out hbr
   have HADD := Lib.hid (HAD.out wr _ _ _ _ (RdC.below HP7.out hbr) (RdC.below HT7.out hbr) hra HB.out (hg.below hBr))
   clear hown hown2 hra
   go_wp2_with fail
   refine HADD.out.mono ?_
   rintro e y1 ⟨_, rfl, ⟨v16, rfl, hr16⟩, hy1⟩
   have hY1 := hBr.trans (hy1.mono hBr.size)
   have HR16 := Lib.hid hr16
   obtain ⟨p16, c16, rfl, -, -, -⟩ := hr16.open
   rw [HTL.out] at HR16 ⊢
   clear hr16
   have HS1 := Lib.hid (same13_true y1 _ _ D (RdC.below HB.out hy1) (RdC.below HW.out hy1) (by rw [HDL.out]; omega))
   go_wp2_with fail
   refine HS1.out.mono ?_
   rintro e y2 ⟨_, rfl, rfl, hy2⟩
   have hY2 := hY1.trans (hy2.mono hY1.size)
   have hy12 := hy1.trans (hy2.mono hy1.size)
   have HS2 := Lib.hid (same13_true y2 _ _ TW (RdC.below HR16.out hy2) (RdC.below HTW.out hy12) (by rw [HTL.out]; omega))
   go_wp2_with fail
   refine HS2.out.mono ?_
   rintro e y3 ⟨_, rfl, rfl, hy3⟩
   go_wp2_with fail
   go_ret
   exact ⟨_, rfl, rfl, hY2.trans (hy3.mono hY2.size)⟩
theorem fieldMakes_all (w : World) (kz s0 s1 : Int) (half : Bool) (x0 x1 x2 : ByteArray) (hk0 : 0 ≤ kz) (hk1 : kz ≤ 255) (hs0 : -128 ≤ s0 ∧ s0 ≤ 127) (hs1 : -128 ≤ s1 ∧ s1 ≤ 127) (hg : Good w) :
 Calls Tryz.prog 6 #[.agg #[.int .u8 kz, .int .i8 s0, .int .i8 s1, .bool half], .agg #[.string x0, .string x1], .string x2] w (Ret (fun r _ => r = .bool true) w) := by
 by_cases hl : 40 < x0.size ∨ (x0.size ≤ 40 ∧ 40 < x1.size) ∨ (x0.size ≤ 40 ∧ x1.size ≤ 40 ∧ 40 < x2.size)
 ·exact fieldMakes_long w kz s0 s1 half x0 x1 x2 hl hg
 have h0 : x0.size ≤ 40 := by omega
 have h1 : x1.size ≤ 40 := by omega
 have h2 : x2.size ≤ 40 := by omega
 obtain ⟨kk, hk⟩ : ∃ k : Nat, kz.tmod 8 = (k : Int) := ⟨(kz.tmod 8).toNat, by have := Int.tmod_nonneg 8 hk0; omega⟩
 have HMK := Lib.hid fun w hg => make12_any w kz s0 s1 half kk hk hk0 hk1 hs0 hs1 hg
 have hM : MeshOK (sheetP kk s0 s1 half) (shapeT kk) 2 := sheet_ok kk s0 s1 half
 have hP6 : (sheetP kk s0 s1 half).length ≤ 6 := by rw [sheetP_length]; exact shapeP_len kk
 have HRP : ∀ w, Good w → _ := fun w hg => rightPoint_any x0 x1 (by omega) (by omega) w hg
 have HRZ : ∀ w, Good w → _ := fun w hg => rightRQ_any x2 (by omega) w hg
 cases hz : rightQ x2.data.toList
 ·rw [hz] at HRZ
  exact fieldMakes_number w kz s0 s1 half x0 x1 x2 h0 h1 h2 _ _ _ rfl hP6 hM HMK (Lib.hid fun w vp vt hp ht hg => fconst_number w vp vt _ _ hp ht hM x2 (by omega) hz hg) (Lib.hid fun w vp vt hp ht hg => fplane_number w vp vt _ _ hp ht hM x0 x1 x2 (by omega) (by omega) (by omega) (by unfold allQ; simp [hz]) hg) HRZ hg
 ·rw [hz] at HRZ
  obtain ⟨z, rfl, zz⟩ := rightM hz (by omega) h2
  cases hs : allQ [x0, x1]
  ·rw [hs] at HRP
   exact fieldMakes_slope w kz s0 s1 half x0 x1 z h0 h1 h2 _ _ _ rfl hP6 hM HMK (Lib.hid fun w vp vt hp ht hg => fconst_ok w vp vt _ _ hp ht hM z zz hg) (Lib.hid fun w vp vt hp ht hg => fplane_number w vp vt _ _ hp ht hM x0 x1 (RS z) (by omega) (by omega) (by omega) (by unfold allQ at hs ⊢; simp only [List.all_cons, List.all_nil, Bool.and_true] at hs ⊢; rw [hz, Bool.and_true]; exact hs) hg) HRZ HRP hg
  ·rw [hs] at HRP
   have hr2 : rightQ x0.data.toList = true ∧ rightQ x1.data.toList = true := by unfold allQ at hs; simpa using hs
   obtain ⟨a, rfl, za⟩ := rightM hr2.1 (by omega) h0
   obtain ⟨b, rfl, zb⟩ := rightM hr2.2 (by omega) h1
   exact fieldMakes_right w kz s0 s1 half a b z za zb zz h0 h1 h2 _ _ _ rfl hP6 hM HMK (Lib.hid fun w vp vt hp ht hg => fconst_ok w vp vt _ _ hp ht hM z zz hg) (Lib.hid fun w vp vt hp ht hg => fplane_ok w vp vt _ _ hp ht hM a b z za zb zz hg) HRZ HRP hg
end Go.Proofs.YtdhcliekejiegaaGreatDoor
