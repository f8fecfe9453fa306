/- klippelaw12.MeshSpans returns true: any sheet, any two places of halves. -/
import Derived.Test.YtccngnjkehibiaaGreatDoorM33
import Derived.Test.YtccngnjkehibiaaGreatDoorM34
namespace Go.Proofs.YtccngnjkehibiaaGreatDoor
open Go.RowKit Go.Lib

theorem flip_get {L : List SpanQ} {i : Nat} {s : SpanQ} (h : L[i]? = some s) : ((L.map flipS).reverse)[L.length - 1 - i]? = some (flipS s) := by
  obtain ⟨hi, rfl⟩ := List.getElem?_eq_some_iff.1 h
  rw [List.getElem?_reverse (by rw [List.length_map]; omega), List.length_map, List.getElem?_map, show L.length - 1 - (L.length - 1 - i) = i by omega, List.getElem?_eq_getElem hi]
  rfl
theorem mid_Sz {x y : Rat} {a b : PtQ} (hx : Sz 88 x) (hy : Sz 88 y) (za : SzP 3 a) (zb : SzP 3 b) : Sz 179 ((x + y) / 2) ∧ SzP 200 (atT a b ((x + y) / 2)) := by
  have h1 : Sz 178 ((x + y) * (1 / 2)) := ((hx.add hy).mul half_Sz).mono (by omega)
  have h2 : (x + y) / 2 = (x + y) * (1 / 2) := by grind
  rw [h2]
  refine ⟨h1.mono (by omega), ?_, ?_⟩
  · exact (za.1.add (h1.mul (zb.1.sub za.1))).mono (by omega)
  · exact (za.2.add (h1.mul (zb.2.sub za.2))).mono (by omega)

theorem cmp_nn {p q : Rat} (h : q ≤ p) : 0 ≤ cmpQ p q := by
  unfold cmpQ
  rw [if_neg (Rat.not_lt.2 h)]
  split <;> decide

set_option maxHeartbeats 8000000 in
set_option maxRecDepth 100000 in
theorem ms_diff (w : World) (kz s0 s1 : Int) (half : Bool) (x0 x1 y0 y1 : Int) (hk0 : 0 ≤ kz) (hk1 : kz ≤ 255) (hs0 : -128 ≤ s0 ∧ s0 ≤ 127) (hs1 : -128 ≤ s1 ∧ s1 ≤ 127)
    (hx0 : -128 ≤ x0 ∧ x0 ≤ 127) (hx1 : -128 ≤ x1 ∧ x1 ≤ 127) (hy0 : -128 ≤ y0 ∧ y0 ≤ 127) (hy1 : -128 ≤ y1 ∧ y1 ≤ 127) (hab0 : (placeB 2 s0 half x0, placeB 2 s1 half x1) ≠ (placeB 2 s0 half y0, placeB 2 s1 half y1)) (hg : Good w) :
    Calls Tryz.prog 7 #[.agg #[.int .u8 kz, .int .i8 s0, .int .i8 s1, .bool half], .agg #[.int .i8 x0, .int .i8 x1], .agg #[.int .i8 y0, .int .i8 y1]] w (Ret (fun r _ => r = .bool true) w) := by
  obtain ⟨k, hk⟩ : ∃ k : Nat, kz.tmod 8 = (k : Int) := ⟨(kz.tmod 8).toNat, by have := Int.tmod_nonneg 8 hk0; omega⟩
  have HMK := Lib.hid fun w hg => make12_any w kz s0 s1 half k hk hk0 hk1 hs0 hs1 hg
  have HPL := Lib.hid fun w hg => place2_any w kz s0 s1 half x0 x1 hs0 hs1 hx0 hx1 hg
  have HPM := Lib.hid fun w hg => place2_any w kz s0 s1 half y0 y1 hs0 hs1 hy0 hy1 hg
  have hM := sheet_ok k s0 s1 half
  have hT4 : (shapeT k).length ≤ 6 := by unfold shapeT; split <;> decide
  obtain ⟨a, ha⟩ : ∃ p : PtQ, p = (placeB 2 s0 half x0, placeB 2 s1 half x1) := ⟨_, rfl⟩
  obtain ⟨b, hb⟩ : ∃ p : PtQ, p = (placeB 2 s0 half y0, placeB 2 s1 half y1) := ⟨_, rfl⟩
  have za : SzP 3 a := by rw [ha]; exact ⟨placeB_Sz 2 (by omega) (by omega) _ _ _ hx0, placeB_Sz 2 (by omega) (by omega) _ _ _ hx1⟩
  have zb : SzP 3 b := by rw [hb]; exact ⟨placeB_Sz 2 (by omega) (by omega) _ _ _ hy0, placeB_Sz 2 (by omega) (by omega) _ _ _ hy1⟩
  rw [show placeB 2 s0 half x0 = a.1 by rw [ha], show placeB 2 s1 half x1 = a.2 by rw [ha]] at HPL
  rw [show placeB 2 s0 half y0 = b.1 by rw [hb], show placeB 2 s1 half y1 = b.2 by rw [hb]] at HPM
  have hab : a ≠ b := by rw [ha, hb]; exact hab0
  have HSS := Lib.hid (sheet_spans k s0 s1 half hab)
  have HLZ := Lib.hid (along_Sz88 (k := k) (s0 := s0) (s1 := s1) (half := half) hab za zb)
  have HLL := Lib.hid (along_len (k := k) (s0 := s0) (s1 := s1) (half := half) hab)
  generalize sheetP k s0 s1 half = P at *
  generalize shapeT k = T at *
  have HM := Lib.hid hM
  have HZA := Lib.hid za
  have HZB := Lib.hid zb
  have HAL : Hid (∀ (w : World) (vp vt : Value), RdP w vp (strP P) → RdT w vt T → Good w → _) := fun w vp vt hp ht hg => along_ok w vp vt P T 2 3 hp ht HM.out (by omega) (by omega) hT4 a b HZA.out HZB.out hab hg
  have HBL : Hid (∀ (w : World) (vp vt : Value), RdP w vp (strP P) → RdT w vt T → Good w → _) := fun w vp vt hp ht hg => along_ok w vp vt P T 2 3 hp ht HM.out (by omega) (by omega) hT4 b a HZB.out HZA.out (fun e => hab e.symm) hg
  rw [HSS.out.1] at HBL
  have HTP := Lib.hid ((two_pts a b).resolve_left (fun e => hab e.1)).2
  have HLO : Hid (∀ (p : PtQ), SzP 200 p → ∀ (w : World) (vp vt : Value), RdP w vp (strP P) → RdT w vt T → Good w → _) := fun p hz w vp vt hp ht hg => locate_ok w vp vt P T 2 hp ht HM.out p hz hg
  have HCT : Hid (∀ (p : PtQ), SzP 200 p → ∀ (w : World) (vp vt : Value), RdP w vp (strP P) → RdT w vt T → Good w → _) := fun p hz w vp vt hp ht hg => contains_ok w vp vt P T 2 hp ht HM.out p hz hg
  have HS5 : Hid (sheetIn P T a → sheetIn P T b → sumS (alongL P T a b) = 1) := HSS.out.2.2.2.2
  obtain ⟨L, hL⟩ : ∃ L, L = alongL P T a b := ⟨_, rfl⟩
  have HS2 : Hid (∀ s ∈ alongL P T a b, s.2.1 < s.2.2 ∧ 0 ≤ s.2.1 ∧ s.2.2 ≤ 1) := HSS.out.2.1
  have HS3 : Hid ((alongL P T a b).Pairwise (fun s t => s.2.2 ≤ t.2.1)) := HSS.out.2.2.1
  have HS4 : Hid (∀ s ∈ alongL P T a b, ∃ l, locN P T (atT a b ((s.2.1 + s.2.2) / 2)) T.length = (s.1 : Int) :: l) := fun s hs => by
    have h := HSS.out.2.2.2.1 s hs
    exact locN_first h.1 h.2
  rw [← hL] at HAL HBL HLZ HLL HS2 HS3 HS4 HS5
  have hL6 : L.length ≤ 6 := Nat.le_trans HLL.out hT4
  clear hL HSS HLL hab hab0
  have hn8 : T.length ≤ 6 := hT4
  clear hk hk0 hk1 hs0 hs1 hx0 hx1 hy0 hy1 hM za zb hT4 ha hb
  go_enter Tryz.func7, Tryz.ntmps7
  go_wp2_with fail
  obtain ⟨W, hW⟩ : ∃ W, W = ((w.alloc (.cells #[.int .u8 kz, .int .i8 s0, .int .i8 s1, .bool half] 49)).alloc (.cells #[.int .i8 x0, .int .i8 x1] 47)).alloc (.cells #[.int .i8 y0, .int .i8 y1] 47) := ⟨_, rfl⟩
  have hB : Below w.heap.size w W := by rw [hW]; exact (((Below.refl _ _).alloc (Nat.le_refl _) _).alloc (by simp) _).alloc (by simp; omega) _
  have b5 : BoxN W (w.heap.size + 1 + 1) 47 [.int .i8 y0, .int .i8 y1] := by rw [hW]; exact BoxN.new _ _ _ _ (by simp)
  have b4 : BoxN W (w.heap.size + 1) 47 [.int .i8 x0, .int .i8 x1] := by
    rw [hW]
    have h1 := (BoxN.new (w.alloc (.cells #[.int .u8 kz, .int .i8 s0, .int .i8 s1, .bool half] 49)) #[.int .i8 x0, .int .i8 x1] 47 (w.heap.size + 1) (by simp))
    exact h1.below ((Below.refl _ _).alloc (Nat.le_refl _) _) h1.lt
  have b3 : BoxN W w.heap.size 49 [.int .u8 kz, .int .i8 s0, .int .i8 s1, .bool half] := by
    rw [hW]
    have h1 := (BoxN.new w #[.int .u8 kz, .int .i8 s0, .int .i8 s1, .bool half] 49 _ rfl)
    exact h1.below (((Below.refl _ _).alloc (Nat.le_refl _) _).alloc (by simp) _) h1.lt
  rw [← hW]
  clear hW
  refine (known12_any W (hg.below hB)).mono ?_
  rintro e o1 ⟨_, rfl, rfl, hb1⟩
  have hB1 := hB.trans (hb1.mono hB.size)
  have b51 := b5.below hb1 b5.lt
  have b41 := b4.below hb1 b4.lt
  have b31 := b3.below hb1 b3.lt
  clear hb1 hB b5 b4 b3
  have k0 := b31.cell 0 rfl
  have k1 := b31.cell 1 rfl
  have k2 := b31.cell 2 rfl
  have k3 := b31.cell 3 rfl
  go_wp2_with fail
  refine (HMK.out o1 (hg.below hB1)).mono ?_
  rintro e o2 ⟨_, rfl, ⟨vp, vt, rfl, hp, ht⟩, hb2⟩
  have hB2 := hB1.trans (hb2.mono hB1.size)
  have b52 := b51.below hb2 b51.lt
  have b42 := b41.below hb2 b41.lt
  have b32 := b31.below hb2 b31.lt
  obtain ⟨pp, cp, rfl, -, -, -⟩ := hp.open
  obtain ⟨pt, ct, rfl, -, -, -⟩ := ht.open
  rw [strP_length] at *
  have HPP := Lib.hid hp
  have HTT := Lib.hid ht
  clear hb2 hB1 b51 b41 b31 hp ht k0 k1 k2 k3
  obtain ⟨o3, ho3⟩ : ∃ W, W = o2.alloc (.cells #[.slice pp P.length cp, .slice pt T.length ct] 34) := ⟨_, rfl⟩
  have hb3 : Below o2.heap.size o2 o3 := by rw [ho3]; exact (Below.refl _ _).alloc (Nat.le_refl _) _
  have b7 : BoxN o3 o2.heap.size 34 [.slice pp P.length cp, .slice pt T.length ct] := by rw [ho3]; exact BoxN.new _ _ _ _ rfl
  have hB3 := hB2.trans (hb3.mono hB2.size)
  have b53 := b52.below hb3 b52.lt
  have b43 := b42.below hb3 b42.lt
  have b33 := b32.below hb3 b32.lt
  go_upto_region 4 with fail
  rw [← ho3]
  clear ho3 b52 b42 b32 hB2
  have k0 := b33.cell 0 rfl
  have k1 := b33.cell 1 rfl
  have k2 := b33.cell 2 rfl
  have k3 := b33.cell 3 rfl
  have i0 := b43.cell 0 rfl
  have i1 := b43.cell 1 rfl
  have j0 := b53.cell 0 rfl
  have j1 := b53.cell 1 rfl
  have hg3 := hg.below hB3
  have hl3 := b33.lt
  have hl4 := b43.lt
  have hl5 := b53.lt
  go_cut [8, 9] (fun s8 s9 wx => ∃ b8 b9 : Nat, s8 = .pointer (some ⟨b8, 0, none⟩) ∧ s9 = .pointer (some ⟨b9, 0, none⟩) ∧ TwoP wx b8 b9 a b ∧ Below o3.heap.size o3 wx)
  case first =>
    as_aux_lemma =>
      have q0 : Below o3.heap.size o3 o3.drew := below_drewN o3 1
      have g0 : Good o3.drew := hg3.drewN 1
      have HS : Hid (∀ w', Below o3.heap.size o3 w' → (w'.cell? ⟨w.heap.size, 0, none⟩ = some (.int .u8 kz) ∧ w'.cell? ⟨w.heap.size, 1, none⟩ = some (.int .i8 s0) ∧ w'.cell? ⟨w.heap.size, 2, none⟩ = some (.int .i8 s1) ∧ w'.cell? ⟨w.heap.size, 3, none⟩ = some (.bool half)) ∧
          (w'.cell? ⟨w.heap.size + 1, 0, none⟩ = some (.int .i8 x0) ∧ w'.cell? ⟨w.heap.size + 1, 1, none⟩ = some (.int .i8 x1)) ∧ w'.cell? ⟨w.heap.size + 1 + 1, 0, none⟩ = some (.int .i8 y0) ∧ w'.cell? ⟨w.heap.size + 1 + 1, 1, none⟩ = some (.int .i8 y1)) := fun w' hb =>
        ⟨⟨(hb.cell (p := ⟨w.heap.size, 0, none⟩) hl3).trans k0, (hb.cell (p := ⟨w.heap.size, 1, none⟩) hl3).trans k1, (hb.cell (p := ⟨w.heap.size, 2, none⟩) hl3).trans k2, (hb.cell (p := ⟨w.heap.size, 3, none⟩) hl3).trans k3⟩, ⟨(hb.cell (p := ⟨w.heap.size + 1, 0, none⟩) hl4).trans i0, (hb.cell (p := ⟨w.heap.size + 1, 1, none⟩) hl4).trans i1⟩, (hb.cell (p := ⟨w.heap.size + 1 + 1, 0, none⟩) hl5).trans j0, (hb.cell (p := ⟨w.heap.size + 1 + 1, 1, none⟩) hl5).trans j1⟩
      go_region_held3 (fun w' => (w'.cell? ⟨w.heap.size, 0, none⟩ = some (.int .u8 kz) ∧ w'.cell? ⟨w.heap.size, 1, none⟩ = some (.int .i8 s0) ∧ w'.cell? ⟨w.heap.size, 2, none⟩ = some (.int .i8 s1) ∧ w'.cell? ⟨w.heap.size, 3, none⟩ = some (.bool half)) ∧
          (w'.cell? ⟨w.heap.size + 1, 0, none⟩ = some (.int .i8 x0) ∧ w'.cell? ⟨w.heap.size + 1, 1, none⟩ = some (.int .i8 x1)) ∧ w'.cell? ⟨w.heap.size + 1 + 1, 0, none⟩ = some (.int .i8 y0) ∧ w'.cell? ⟨w.heap.size + 1 + 1, 1, none⟩ = some (.int .i8 y1))
        ((refine HS.out _ ?_; repeat (first | with_reducible exact q2 | with_reducible exact q1 | with_reducible exact q0 | with_reducible exact Below.refl _ _ | with_reducible refine Below.drew ?_ | ((with_reducible refine Below.setCell ?_ ?_ _); rotate_left; (first | omega | (simp <;> omega))) | ((with_reducible refine Below.alloc ?_ ?_ _); rotate_left; (first | exact Nat.le_refl _ | omega | (simp <;> omega))))))
        (first
          | ((with_reducible refine Calls.mono (HPM.out _ ?_) ?_); (focus refine hg3.below ?_; repeat (first | with_reducible exact q2 | with_reducible exact q1 | with_reducible exact q0 | with_reducible exact Below.refl _ _ | with_reducible refine Below.drew ?_ | ((with_reducible refine Below.setCell ?_ ?_ _); rotate_left; (first | omega | (simp <;> omega))) | ((with_reducible refine Below.alloc ?_ ?_ _); rotate_left; (first | exact Nat.le_refl _ | omega | (simp <;> omega))))); rintro e z2 ⟨_, rfl, rfl, hy2⟩
             have q2 : Below o3.heap.size o3 z2 := (by refine Below.trans ?_ (hy2.mono ?_); rotate_left; (first | exact Nat.le_refl _ | omega | (simp <;> omega)); repeat (first | with_reducible exact q2 | with_reducible exact q1 | with_reducible exact q0 | with_reducible exact Below.refl _ _ | with_reducible refine Below.drew ?_ | ((with_reducible refine Below.setCell ?_ ?_ _); rotate_left; (first | omega | (simp <;> omega))) | ((with_reducible refine Below.alloc ?_ ?_ _); rotate_left; (first | exact Nat.le_refl _ | omega | (simp <;> omega)))))
             have sz2 := q2.size
             have p2 : Below z1.heap.size z1 z2 := (by refine Below.trans ?_ (hy2.mono ?_); rotate_left; (first | exact Nat.le_refl _ | omega | (simp <;> omega)); repeat (first | with_reducible exact q2 | with_reducible exact q1 | with_reducible exact q0 | with_reducible exact Below.refl _ _ | with_reducible refine Below.drew ?_ | ((with_reducible refine Below.setCell ?_ ?_ _); rotate_left; (first | omega | (simp <;> omega))) | ((with_reducible refine Below.alloc ?_ ?_ _); rotate_left; (first | exact Nat.le_refl _ | omega | (simp <;> omega)))))
             have sz12 := p2.size
             (try have H8 := Lib.hid (E8.out.below p2 E8.out.lt))
             (try have H9 := Lib.hid (E9.out.below p2 E9.out.lt))
             (first | (have D := zb2 hy2; have D8 := Lib.hid D.1; have D9 := Lib.hid D.2; clear D) | (have D8 := Lib.hid (zb1 hy2)) | skip)
             (first | (have H8f := BoxF.of H8.out; obtain ⟨u1, u2, u3, u4, u5⟩ := H8f) | skip)
             (first | (have H9f := BoxF.of H9.out; obtain ⟨u6, u7, u8, u9, u10⟩ := H9f) | skip)
             (first | (have D8f := BoxF.of D8.out; obtain ⟨v1, v2, v3, v4, v5⟩ := D8f) | skip)
             (first | (have D9f := BoxF.of D9.out; obtain ⟨v6, v7, v8, v9, v10⟩ := D9f) | skip)
             (try have n1 := Nat.ne_of_lt E8.out.lt)
             (try have n2 := n1.symm)
             (try have n3 := Nat.ne_of_lt E9.out.lt)
             (try have n4 := n3.symm)
             (try have n5 := Nat.ne_of_lt u5)
             (try have n6 := n5.symm)
             (try have n7 := Nat.ne_of_lt u10)
             (try have n8 := n7.symm)
             (try have n9 := Nat.ne_of_lt v5)
             (try have n10 := n9.symm)
             (try have n11 := Nat.ne_of_lt v10)
             (try have n12 := n11.symm))
          | ((with_reducible refine Calls.mono (HPL.out _ ?_) ?_); (focus refine hg3.below ?_; repeat (first | with_reducible exact q2 | with_reducible exact q1 | with_reducible exact q0 | with_reducible exact Below.refl _ _ | with_reducible refine Below.drew ?_ | ((with_reducible refine Below.setCell ?_ ?_ _); rotate_left; (first | omega | (simp <;> omega))) | ((with_reducible refine Below.alloc ?_ ?_ _); rotate_left; (first | exact Nat.le_refl _ | omega | (simp <;> omega))))); rintro e z1 ⟨_, rfl, rfl, hy1⟩
             have q1 : Below o3.heap.size o3 z1 := (by refine Below.trans ?_ (hy1.mono ?_); rotate_left; (first | exact Nat.le_refl _ | omega | (simp <;> omega)); repeat (first | with_reducible exact q2 | with_reducible exact q1 | with_reducible exact q0 | with_reducible exact Below.refl _ _ | with_reducible refine Below.drew ?_ | ((with_reducible refine Below.setCell ?_ ?_ _); rotate_left; (first | omega | (simp <;> omega))) | ((with_reducible refine Below.alloc ?_ ?_ _); rotate_left; (first | exact Nat.le_refl _ | omega | (simp <;> omega)))))
             have sz1 := q1.size
             (first | (have D := zb2d hy1; have E8 := Lib.hid D.1; have E9 := Lib.hid D.2; clear D) | (have E8 := Lib.hid (zb1d hy1)) | skip)))
      all_goals
        go_wp2_with fail
        go_meet
        refine ⟨_, _, rfl, rfl, ⟨?_, ?_⟩, ?_⟩
        · repeat (first | with_reducible exact H8.out | with_reducible exact H9.out | with_reducible exact D8.out | with_reducible exact D9.out | with_reducible refine box_set2 ?_ | ((with_reducible refine box_far2 ?_ ?_); rotate_left; (first | assumption | omega)) | ((with_reducible refine box_newE _ _ _ _ _ ?_); (first | rfl | (simp <;> omega))) | with_reducible refine BoxN.alloc ?_ _)
        · repeat (first | with_reducible exact H8.out | with_reducible exact H9.out | with_reducible exact D8.out | with_reducible exact D9.out | with_reducible refine box_set2 ?_ | ((with_reducible refine box_far2 ?_ ?_); rotate_left; (first | assumption | omega)) | ((with_reducible refine box_newE _ _ _ _ _ ?_); (first | rfl | (simp <;> omega))) | with_reducible refine BoxN.alloc ?_ _)
        · repeat (first | with_reducible exact q2 | with_reducible exact q1 | with_reducible exact q0 | with_reducible exact Below.refl _ _ | with_reducible refine Below.drew ?_ | ((with_reducible refine Below.setCell ?_ ?_ _); rotate_left; (first | omega | (simp <;> omega))) | ((with_reducible refine Below.alloc ?_ ?_ _); rotate_left; (first | exact Nat.le_refl _ | omega | (simp <;> omega))))
  case rest =>
    obtain ⟨b8, b9, rfl, rfl, hTW, hb4⟩ := hcut
    have hB4 := hB3.trans (hb4.mono hB3.size)
    have h24 : Below o2.heap.size o2 wc := hb3.trans (hb4.mono hb3.size)
    have b74 := b7.below hb4 b7.lt
    have m0 := b74.cell 0 rfl
    have m1 := b74.cell 1 rfl
    have p0 := hTW.1.cell 0 rfl
    have p1 := hTW.1.cell 1 rfl
    have r0 := hTW.2.cell 0 rfl
    have r1 := hTW.2.cell 1 rfl
    clear k0 k1 k2 k3 i0 i1 j0 j1 b33 b43 b53 b7 hb3 hb4 hB3 hg3 hl3 hl4 hl5 HPL HPM HMK
    go_wp2_with fail
    refine (HAL.out wc _ _ (RdC.below HPP.out h24) (RdC.below HTT.out h24) (hg.below hB4)).mono ?_
    rintro e o5 ⟨_, rfl, ⟨vl, rfl, hl⟩, hb5⟩
    have hB5 := hB4.trans (hb5.mono hB4.size)
    have h25 := h24.trans (hb5.mono h24.size)
    have b75 := b74.below hb5 b74.lt
    have hTW5 := hTW.below hb5
    have HL5 : Hid (RdSp o5 vl L) := hl
    clear m0 m1 p0 p1 r0 r1 b74 hTW hb5 hB4 h24 HAL hl
    have m0 := b75.cell 0 rfl
    have m1 := b75.cell 1 rfl
    have p0 := hTW5.1.cell 0 rfl
    have p1 := hTW5.1.cell 1 rfl
    have r0 := hTW5.2.cell 0 rfl
    have r1 := hTW5.2.cell 1 rfl
    go_wp2_with fail
    refine (HBL.out o5 _ _ (RdC.below HPP.out h25) (RdC.below HTT.out h25) (hg.below hB5)).mono ?_
    rintro e o6 ⟨_, rfl, ⟨vr, rfl, hr⟩, hb6⟩
    have hB6 := hB5.trans (hb6.mono hB5.size)
    have h26 := h25.trans (hb6.mono h25.size)
    have b76 := b75.below hb6 b75.lt
    have hTW6 := hTW5.below hb6
    have hl6 : RdSp o6 vl L := RdC.below HL5.out hb6
    clear m0 m1 p0 p1 r0 r1 b75 hTW5 hb6 hB5 h25 HBL HL5
    obtain ⟨pl, cl, rfl, hlc⟩ := hl6.cells
    obtain ⟨pr, cr, rfl, hrc⟩ := hr.cells
    have HLC : Hid (∀ (j : Nat) (s : SpanQ), L[j]? = some s → ∃ g off, pl = some ⟨g, off, none⟩ ∧ g < o6.heap.size ∧ (o6.cell? ⟨g, off + j * 3, none⟩ = some (.int .i64 (s.1 : Int)) ∧ o6.cell? ⟨g, off + j * 3 + 1, none⟩ = some (.string (RS s.2.1)) ∧ o6.cell? ⟨g, off + j * 3 + 2, none⟩ = some (.string (RS s.2.2)))) := fun j s hj => by
      obtain ⟨g, off, e3, e4, e5⟩ := hlc (fun e => by rw [e] at hj; cases hj)
      exact ⟨g, off, e3, e4, e5 j s hj⟩
    have HRC : Hid (∀ (j : Nat) (s : SpanQ), L[j]? = some s → ∃ g off, pr = some ⟨g, off, none⟩ ∧ g < o6.heap.size ∧ (o6.cell? ⟨g, off + (L.length - 1 - j) * 3, none⟩ = some (.int .i64 (s.1 : Int)) ∧ o6.cell? ⟨g, off + (L.length - 1 - j) * 3 + 1, none⟩ = some (.string (RS (1 - s.2.2))) ∧ o6.cell? ⟨g, off + (L.length - 1 - j) * 3 + 2, none⟩ = some (.string (RS (1 - s.2.1))))) := fun j s hj => by
      have hf := flip_get hj
      obtain ⟨g, off, e3, e4, e5⟩ := hrc (fun e => by rw [e] at hf; cases hf)
      exact ⟨g, off, e3, e4, e5 _ _ hf⟩
    rw [show ((L.map flipS).reverse).length = L.length by simp]
    clear hlc hrc hl6 hr
    have p0 := hTW6.1.cell 0 rfl
    have p1 := hTW6.1.cell 1 rfl
    have r0 := hTW6.2.cell 0 rfl
    have r1 := hTW6.2.cell 1 rfl
    go_upto_region 7 with fail
    go_cut [51] (fun s51 wx => s51 = .bool false ∧ wx = o6)
    case first =>
      as_aux_lemma =>
        rcases HTP.out with h1 | ⟨h1, h2⟩
        all_goals
          go_wp2_with fail
          go_meet
          exact ⟨rfl, rfl⟩
    case rest =>
      obtain ⟨rfl, hwc⟩ := hcut
      rw [hwc]
      clear hwc p0 p1 r0 r1
      have hnn : ((L.length : Int) != (L.length : Int)) = false := bne_self_eq_false _
      go_wp2_with fail
      go_loopw [14, 15] (fun t14 t15 wr => ∃ (i : Nat) (z : Rat), t15 = .int .i64 i ∧ i ≤ L.length ∧ t14 = .string (RS z) ∧ Hid (Sz 88 z ∧ ∀ s, L[i]? = some s → z ≤ s.2.1) ∧ Below o6.heap.size o6 wr) (fun _ t15 _ => L.length - (RowKit.intOf t15).toNat)
      case atStart => exact ⟨0, 0, rfl, Nat.zero_le _, by rw [RS_zero], ⟨Sz.zero _ (by omega), fun s hs => (HS2.out s (List.mem_of_getElem? hs)).2.1⟩, Below.refl _ _⟩
      case round =>
        obtain ⟨i, z, rfl, hi, rfl, HZ, hbr⟩ := hrel
        have hbW := hB6.trans (hbr.mono hB6.size)
        have hbr2 := h26.trans (hbr.mono h26.size)
        have b7r := b76.below hbr b76.lt
        have hTr := hTW6.below hbr
        rcases Nat.lt_or_ge i L.length with h | h
        · obtain ⟨s, hs⟩ : ∃ s, L[i]? = some s := ⟨_, List.getElem?_eq_getElem h⟩
          obtain ⟨bl, ol, rfl, hbl, x0', x1', x2'⟩ := HLC.out i s hs
          obtain ⟨bq, oq, rfl, hbq, y0', y1', y2'⟩ := HRC.out i s hs
          have x0 := (hbr.cell (p := ⟨bl, ol + i * 3, none⟩) hbl).trans x0'
          have x1 := (hbr.cell (p := ⟨bl, ol + i * 3 + 1, none⟩) hbl).trans x1'
          have x2 := (hbr.cell (p := ⟨bl, ol + i * 3 + 2, none⟩) hbl).trans x2'
          have y0 := (hbr.cell (p := ⟨bq, oq + (L.length - 1 - i) * 3, none⟩) hbq).trans y0'
          have y1 := (hbr.cell (p := ⟨bq, oq + (L.length - 1 - i) * 3 + 1, none⟩) hbq).trans y1'
          have y2 := (hbr.cell (p := ⟨bq, oq + (L.length - 1 - i) * 3 + 2, none⟩) hbq).trans y2'
          have hms := List.mem_of_getElem? hs
          obtain ⟨q1, q2, q3⟩ := HS2.out s hms
          obtain ⟨zx, zy⟩ := HLZ.out s hms
          have hzs := HZ.out.2 s hs
          obtain ⟨l', hl'⟩ := HS4.out s hms
          have HLOC := Lib.hid hl'
          have HNX : Hid (Sz 88 s.2.2 ∧ ∀ t, L[i + 1]? = some t → s.2.2 ≤ t.2.1) := ⟨zy, fun t ht => by
            obtain ⟨h1, rfl⟩ := List.getElem?_eq_some_iff.1 ht
            obtain ⟨h0, rfl⟩ := List.getElem?_eq_some_iff.1 hs
            exact List.pairwise_iff_getElem.1 HS3.out i (i + 1) h0 h1 (by omega)⟩
          have HSZ := Lib.hid (mid_Sz zx zy HZA.out HZB.out)
          obtain ⟨z1, hz1, hz10⟩ : ∃ z1 : Int, cmpQ s.2.1 z = z1 ∧ 0 ≤ z1 := ⟨_, rfl, cmp_nn hzs⟩
          have HC1 : Hid (∀ w, Good w → Calls Tryz.prog 14 #[.string (RS s.2.1), .string (RS z)] w (Ret (fun v _ => v = .int .i64 z1) w)) := fun w hg => by rw [← hz1]; exact ratCompare_any s.2.1 z 88 (by omega) (by omega) zx HZ.out.1 w hg
          have HC2 : Hid (∀ w, Good w → Calls Tryz.prog 14 #[.string (RS s.2.1), .string (RS s.2.2)] w (Ret (fun v _ => v = .int .i64 (-1)) w)) := fun w hg => ratCmp_lt s.2.1 s.2.2 88 (by omega) (by omega) zx zy q1 w hg
          have HD1 : Hid (∀ w, Good w → Calls Tryz.prog 20 #[.string ⟨#[49]⟩, .string (RS (1 - s.2.1))] w (Ret (fun v _ => v = .string (RS s.2.1)) w)) := fun w hg => by
            have h := ratSub_any 1 (1 - s.2.1) 200 (by omega) (by omega) (Sz.one.mono (by omega)) ((Sz.one.sub zx).mono (by omega)) w hg
            rw [RS_one, show 1 - (1 - s.2.1) = s.2.1 by grind] at h
            exact h
          have HD2 : Hid (∀ w, Good w → Calls Tryz.prog 20 #[.string ⟨#[49]⟩, .string (RS (1 - s.2.2))] w (Ret (fun v _ => v = .string (RS s.2.2)) w)) := fun w hg => by
            have h := ratSub_any 1 (1 - s.2.2) 200 (by omega) (by omega) (Sz.one.mono (by omega)) ((Sz.one.sub zy).mono (by omega)) w hg
            rw [RS_one, show 1 - (1 - s.2.2) = s.2.2 by grind] at h
            exact h
          have HMI : Hid (∀ w, Good w → Calls Tryz.prog 34 #[.string (RS s.2.1), .string (RS s.2.2)] w (Ret (fun v _ => v = .string (RS ((s.2.1 + s.2.2) / 2))) w)) := fun w hg => ratMiddle_any s.2.1 s.2.2 88 (by omega) (by omega) zx zy w hg
          have hzd : decide (z1 < 0) = false := decide_eq_false (by omega)
          have hzn : ¬ z1 < 0 := by omega
          have hiz : (i : Int) < (L.length : Int) := by omega
          have hw1 : IntKind.i64.wrap ((L.length : Int) - 1) = (L.length : Int) - 1 := IntWalk.i64_in _ (by omega)
          have hw2 : IntKind.i64.wrap ((L.length : Int) - 1 - (i : Int)) = ((L.length - 1 - i : Nat) : Int) := (IntWalk.i64_in _ (by omega)).trans (by omega)
          have hw3 : ((L.length - 1 - i : Nat) : Int) < (L.length : Int) := by omega
          clear hs x0' x1' x2' y0' y1' y2' hms q1 q2 q3 zx zy hzs hl' hz1
          obtain ⟨o7, ho7⟩ : ∃ W, W = wr.alloc (.cells #[.int .i64 (s.1 : Int), .string (RS (1 - s.2.2)), .string (RS (1 - s.2.1))] 60) := ⟨_, rfl⟩
          have hb7' : Below wr.heap.size wr o7 := by rw [ho7]; exact (Below.refl _ _).alloc (Nat.le_refl _) _
          have bo : BoxN o7 wr.heap.size 60 [.int .i64 (s.1 : Int), .string (RS (1 - s.2.2)), .string (RS (1 - s.2.1))] := by rw [ho7]; exact BoxN.new _ _ _ _ rfl
          go_upto_region 16 with fail
          rw [← ho7]
          clear ho7 y0 y1 y2
          have hblr : bl < wr.heap.size := Nat.lt_of_lt_of_le hbl hbr.size
          have w0 := (hb7'.cell (p := ⟨bl, ol + i * 3, none⟩) hblr).trans x0
          have w1 := (hb7'.cell (p := ⟨bl, ol + i * 3 + 1, none⟩) hblr).trans x1
          have w2 := (hb7'.cell (p := ⟨bl, ol + i * 3 + 2, none⟩) hblr).trans x2
          have v1 := bo.cell 1 rfl
          have v2 := bo.cell 2 rfl
          have hlo := bo.lt
          have hblo : bl < o7.heap.size := Nat.lt_of_lt_of_le hblr hb7'.size
          have hb67 : Below o6.heap.size o6 o7 := hbr.trans (hb7'.mono hbr.size)
          have hgd7 : Good o7.drew := (hg.below (hB6.trans (hb67.mono hB6.size))).drewN 1
          clear x0 x1 x2
          go_cut [128] (fun s128 wx => s128 = .bool false ∧ Below o7.heap.size o7 wx)
          case first =>
            as_aux_lemma =>
              go_region_held3 (fun w' => w'.cell? ⟨bl, ol + i * 3 + 1, none⟩ = some (.string (RS s.2.1)) ∧ w'.cell? ⟨bl, ol + i * 3 + 2, none⟩ = some (.string (RS s.2.2)) ∧ w'.cell? ⟨wr.heap.size, 1, none⟩ = some (.string (RS (1 - s.2.2))) ∧ w'.cell? ⟨wr.heap.size, 2, none⟩ = some (.string (RS (1 - s.2.1))))
                (first | exact ⟨w1, w2, v1, v2⟩ | exact ⟨p_1_0, p_1_1, p_1_2, p_1_3⟩ | exact ⟨p_2_0, p_2_1, p_2_2, p_2_3⟩ | exact ⟨p_3_0, p_3_1, p_3_2, p_3_3⟩ | exact ⟨p_4_0, p_4_1, p_4_2, p_4_3⟩)
                (first
                | (go_at_call 20; refine (HD2.out _ pg3).mono ?_; rintro e pw4 ⟨_, rfl, rfl, pb4⟩
                   have p_4_0 := (pb4.cell (p := ⟨bl, ol + i * 3 + 1, none⟩) (by show bl < pw3.heap.size; omega)).trans p_3_0
                   have p_4_1 := (pb4.cell (p := ⟨bl, ol + i * 3 + 2, none⟩) (by show bl < pw3.heap.size; omega)).trans p_3_1
                   have p_4_2 := (pb4.cell (p := ⟨wr.heap.size, 1, none⟩) (by show wr.heap.size < pw3.heap.size; omega)).trans p_3_2
                   have p_4_3 := (pb4.cell (p := ⟨wr.heap.size, 2, none⟩) (by show wr.heap.size < pw3.heap.size; omega)).trans p_3_3
                   have ps4 : pw3.heap.size ≤ pw4.heap.size := pb4.size
                   have pg4 : Good pw4 := pg3.below pb4)
                | (go_at_call 20; refine (HD1.out _ pg2).mono ?_; rintro e pw3 ⟨_, rfl, rfl, pb3⟩
                   have p_3_0 := (pb3.cell (p := ⟨bl, ol + i * 3 + 1, none⟩) (by show bl < pw2.heap.size; omega)).trans p_2_0
                   have p_3_1 := (pb3.cell (p := ⟨bl, ol + i * 3 + 2, none⟩) (by show bl < pw2.heap.size; omega)).trans p_2_1
                   have p_3_2 := (pb3.cell (p := ⟨wr.heap.size, 1, none⟩) (by show wr.heap.size < pw2.heap.size; omega)).trans p_2_2
                   have p_3_3 := (pb3.cell (p := ⟨wr.heap.size, 2, none⟩) (by show wr.heap.size < pw2.heap.size; omega)).trans p_2_3
                   have ps3 : pw2.heap.size ≤ pw3.heap.size := pb3.size
                   have pg3 : Good pw3 := pg2.below pb3)
                | (go_at_call 14; refine (HC2.out _ pg1).mono ?_; rintro e pw2 ⟨_, rfl, rfl, pb2⟩
                   have p_2_0 := (pb2.cell (p := ⟨bl, ol + i * 3 + 1, none⟩) (by show bl < pw1.heap.size; omega)).trans p_1_0
                   have p_2_1 := (pb2.cell (p := ⟨bl, ol + i * 3 + 2, none⟩) (by show bl < pw1.heap.size; omega)).trans p_1_1
                   have p_2_2 := (pb2.cell (p := ⟨wr.heap.size, 1, none⟩) (by show wr.heap.size < pw1.heap.size; omega)).trans p_1_2
                   have p_2_3 := (pb2.cell (p := ⟨wr.heap.size, 2, none⟩) (by show wr.heap.size < pw1.heap.size; omega)).trans p_1_3
                   have ps2 : pw1.heap.size ≤ pw2.heap.size := pb2.size
                   have pg2 : Good pw2 := pg1.below pb2)
                | (go_at_call 14; refine (HC1.out _ hgd7).mono ?_; rintro e pw1 ⟨_, rfl, rfl, pb1⟩
                   have p_1_0 := (pb1.cell (p := ⟨bl, ol + i * 3 + 1, none⟩) (by show bl < o7.heap.size; omega)).trans w1
                   have p_1_1 := (pb1.cell (p := ⟨bl, ol + i * 3 + 2, none⟩) (by show bl < o7.heap.size; omega)).trans w2
                   have p_1_2 := (pb1.cell (p := ⟨wr.heap.size, 1, none⟩) (by show wr.heap.size < o7.heap.size; omega)).trans v1
                   have p_1_3 := (pb1.cell (p := ⟨wr.heap.size, 2, none⟩) (by show wr.heap.size < o7.heap.size; omega)).trans v2
                   have ps1 : o7.heap.size ≤ pw1.heap.size := pb1.size
                   have pg1 : Good pw1 := hgd7.below pb1))
              have pB : Below o7.heap.size o7 pw4 := (((((below_drewN o7 1).trans (pb1.mono (by show o7.heap.size ≤ o7.heap.size; omega))).trans (pb2.mono (by show o7.heap.size ≤ pw1.heap.size; omega))).trans (pb3.mono (by show o7.heap.size ≤ pw2.heap.size; omega))).trans (pb4.mono (by show o7.heap.size ≤ pw3.heap.size; omega)))
              go_wp2_with fail
              go_meet
              exact ⟨rfl, pB⟩
          case rest =>
            obtain ⟨rfl, hc1⟩ := hcut
            have hb8 := hb67.trans (hc1.mono hb67.size)
            have w0 := (hc1.cell (p := ⟨bl, ol + i * 3, none⟩) hblo).trans w0
            have w1 := (hc1.cell (p := ⟨bl, ol + i * 3 + 1, none⟩) hblo).trans w1
            have w2 := (hc1.cell (p := ⟨bl, ol + i * 3 + 2, none⟩) hblo).trans w2
            have hblc : bl < wc.heap.size := Nat.lt_of_lt_of_le hblo hc1.size
            clear v1 v2 hgd7 HC1 HC2 HD1 HD2 hzd hzn hz10
            obtain ⟨x, hx⟩ : ∃ x, x = (s.2.1 + s.2.2) / 2 := ⟨_, rfl⟩
            rw [← hx] at HMI HSZ HLOC
            clear hx
            have hgd8 : Good wc.drew := (hg.below (hB6.trans (hb8.mono hB6.size))).drewN 1
            go_upto_region 19 with fail
            go_cut [17] (fun s17 wx => s17 = .string (RS x) ∧ Below wc.heap.size wc wx)
            case first =>
              as_aux_lemma =>
                go_region_held3 (fun w' => w'.cell? ⟨bl, ol + i * 3 + 1, none⟩ = some (.string (RS s.2.1)) ∧ w'.cell? ⟨bl, ol + i * 3 + 2, none⟩ = some (.string (RS s.2.2)))
                  (first | exact ⟨w1, w2⟩ | exact ⟨p_1_0, p_1_1⟩)
                  (first
                  | (go_at_call 34; refine (HMI.out _ hgd8).mono ?_; rintro e pw1 ⟨_, rfl, rfl, pb1⟩
                     have p_1_0 := (pb1.cell (p := ⟨bl, ol + i * 3 + 1, none⟩) (by show bl < wc.heap.size; omega)).trans w1
                     have p_1_1 := (pb1.cell (p := ⟨bl, ol + i * 3 + 2, none⟩) (by show bl < wc.heap.size; omega)).trans w2
                     have ps1 : wc.heap.size ≤ pw1.heap.size := pb1.size
                     have pg1 : Good pw1 := hgd8.below pb1))
                have pB : Below wc.heap.size wc pw1 := ((below_drewN wc 1).trans (pb1.mono (by show wc.heap.size ≤ wc.heap.size; omega)))
                go_wp2_with fail
                go_meet
                exact ⟨rfl, pB⟩
            case rest =>
              obtain ⟨rfl, hc2⟩ := hcut
              have hb9 := hb8.trans (hc2.mono hb8.size)
              have w0 := (hc2.cell (p := ⟨bl, ol + i * 3, none⟩) hblc).trans w0
              clear w1 w2 hgd8 HMI
              have hT9 := hTr.below (hb7'.trans ((hc1.trans (hc2.mono hc1.size)).mono hb7'.size))
              have p0 := hT9.1.cell 0 rfl
              have p1 := hT9.1.cell 1 rfl
              have r0 := hT9.2.cell 0 rfl
              have r1 := hT9.2.cell 1 rfl
              have hl8 := hT9.1.lt
              have hl9 := hT9.2.lt
              have hgX : Good wc := hg.below (hB6.trans (hb9.mono hB6.size))
              obtain ⟨pX, hpX⟩ : ∃ pX, pX = a.1 + x * (b.1 - a.1) := ⟨_, rfl⟩
              obtain ⟨pY, hpY⟩ : ∃ pY, pY = a.2 + x * (b.2 - a.2) := ⟨_, rfl⟩
              have HPT : Hid (atT a b x = (pX, pY)) := by unfold Hid atT; rw [hpX, hpY]
              have HU1 : Hid (∀ w, Good w → _) := fun w hg => ratSub_any b.1 a.1 3 (by omega) (by omega) HZB.out.1 HZA.out.1 w hg
              have HU4 : Hid (∀ w, Good w → _) := fun w hg => ratSub_any b.2 a.2 3 (by omega) (by omega) HZB.out.2 HZA.out.2 w hg
              have ZU1 : Sz 179 (b.1 - a.1) := (HZB.out.1.sub HZA.out.1).mono (by omega)
              have ZU4 : Sz 179 (b.2 - a.2) := (HZB.out.2.sub HZA.out.2).mono (by omega)
              have HU2 : Hid (∀ w, Good w → _) := fun w hg => ratMul_any x (b.1 - a.1) 179 (by omega) (by omega) HSZ.out.1 ZU1 w hg
              have HU5 : Hid (∀ w, Good w → _) := fun w hg => ratMul_any x (b.2 - a.2) 179 (by omega) (by omega) HSZ.out.1 ZU4 w hg
              have HU3 : Hid (∀ w, Good w → _) := fun w hg => ratAdd_any a.1 (x * (b.1 - a.1)) 400 (by omega) (by omega) (HZA.out.1.mono (by omega)) ((HSZ.out.1.mul ZU1).mono (by omega)) w hg
              have HU6 : Hid (∀ w, Good w → _) := fun w hg => ratAdd_any a.2 (x * (b.2 - a.2)) 400 (by omega) (by omega) (HZA.out.2.mono (by omega)) ((HSZ.out.1.mul ZU4).mono (by omega)) w hg
              rw [← hpX] at HU3
              rw [← hpY] at HU6
              clear hpX hpY ZU1 ZU4
              go_upto_region 20 with fail
              go_cut [18] (fun s18 wx => ∃ b18 : Nat, s18 = .pointer (some ⟨b18, 0, none⟩) ∧ BoxN wx b18 24 [.string (RS pX), .string (RS pY)] ∧ Below wc.heap.size wc wx)
              case first =>
                as_aux_lemma =>
                  have q0 : Below wc.heap.size wc wc.drew := below_drewN wc 1
                  have HS : Hid (∀ w' : World, Below wc.heap.size wc w' → (w'.cell? ⟨b8, 0, none⟩ = some (.string (RS a.1)) ∧ w'.cell? ⟨b8, 1, none⟩ = some (.string (RS a.2))) ∧ w'.cell? ⟨b9, 0, none⟩ = some (.string (RS b.1)) ∧ w'.cell? ⟨b9, 1, none⟩ = some (.string (RS b.2))) := fun w' hb =>
                    ⟨⟨(hb.cell (p := ⟨b8, 0, none⟩) hl8).trans p0, (hb.cell (p := ⟨b8, 1, none⟩) hl8).trans p1⟩, (hb.cell (p := ⟨b9, 0, none⟩) hl9).trans r0, (hb.cell (p := ⟨b9, 1, none⟩) hl9).trans r1⟩
                  go_region_held3 (fun w' => (w'.cell? ⟨b8, 0, none⟩ = some (.string (RS a.1)) ∧ w'.cell? ⟨b8, 1, none⟩ = some (.string (RS a.2))) ∧ w'.cell? ⟨b9, 0, none⟩ = some (.string (RS b.1)) ∧ w'.cell? ⟨b9, 1, none⟩ = some (.string (RS b.2)))
                    ((refine HS.out _ ?_; repeat (first | with_reducible exact q6 | with_reducible exact q5 | with_reducible exact q4 | with_reducible exact q3 | with_reducible exact q2 | with_reducible exact q1 | with_reducible exact q0 | with_reducible exact Below.refl _ _ | with_reducible refine Below.drew ?_ | ((with_reducible refine Below.setCell ?_ ?_ _); rotate_left; (first | omega | (simp <;> omega))) | ((with_reducible refine Below.alloc ?_ ?_ _); rotate_left; (first | exact Nat.le_refl _ | omega | (simp <;> omega))))))
                    (first
                      | ((with_reducible refine Calls.mono (HU6.out _ ?_) ?_); (focus refine hgX.below ?_; repeat (first | with_reducible exact q6 | with_reducible exact q5 | with_reducible exact q4 | with_reducible exact q3 | with_reducible exact q2 | with_reducible exact q1 | with_reducible exact q0 | with_reducible exact Below.refl _ _ | with_reducible refine Below.drew ?_ | ((with_reducible refine Below.setCell ?_ ?_ _); rotate_left; (first | omega | (simp <;> omega))) | ((with_reducible refine Below.alloc ?_ ?_ _); rotate_left; (first | exact Nat.le_refl _ | omega | (simp <;> omega))))); rintro e z6 ⟨_, rfl, rfl, hy6⟩
                         have q6 : Below wc.heap.size wc z6 := (by refine Below.trans ?_ (hy6.mono ?_); rotate_left; (first | exact Nat.le_refl _ | omega | (simp <;> omega)); repeat (first | with_reducible exact q6 | with_reducible exact q5 | with_reducible exact q4 | with_reducible exact q3 | with_reducible exact q2 | with_reducible exact q1 | with_reducible exact q0 | with_reducible exact Below.refl _ _ | with_reducible refine Below.drew ?_ | ((with_reducible refine Below.setCell ?_ ?_ _); rotate_left; (first | omega | (simp <;> omega))) | ((with_reducible refine Below.alloc ?_ ?_ _); rotate_left; (first | exact Nat.le_refl _ | omega | (simp <;> omega)))))
                         have szq6 := q6.size
                         have pz6 : Below z5.heap.size z5 z6 := (by refine Below.trans ?_ (hy6.mono ?_); rotate_left; (first | exact Nat.le_refl _ | omega | (simp <;> omega)); repeat (first | with_reducible exact q6 | with_reducible exact q5 | with_reducible exact q4 | with_reducible exact q3 | with_reducible exact q2 | with_reducible exact q1 | with_reducible exact q0 | with_reducible exact Below.refl _ _ | with_reducible refine Below.drew ?_ | ((with_reducible refine Below.setCell ?_ ?_ _); rotate_left; (first | omega | (simp <;> omega))) | ((with_reducible refine Below.alloc ?_ ?_ _); rotate_left; (first | exact Nat.le_refl _ | omega | (simp <;> omega)))))
                         have spz6 := pz6.size
                         (first | (have BB6 := Lib.hid (zb1 hy6)) | (have BB6 := Lib.hid (BB5.out.below pz6 BB5.out.lt)) | skip)
                         (first | (have BF := BoxF.of BB6.out; obtain ⟨u1, u2, u3, u4, u5⟩ := BF) | skip))
                      | ((with_reducible refine Calls.mono (HU5.out _ ?_) ?_); (focus refine hgX.below ?_; repeat (first | with_reducible exact q6 | with_reducible exact q5 | with_reducible exact q4 | with_reducible exact q3 | with_reducible exact q2 | with_reducible exact q1 | with_reducible exact q0 | with_reducible exact Below.refl _ _ | with_reducible refine Below.drew ?_ | ((with_reducible refine Below.setCell ?_ ?_ _); rotate_left; (first | omega | (simp <;> omega))) | ((with_reducible refine Below.alloc ?_ ?_ _); rotate_left; (first | exact Nat.le_refl _ | omega | (simp <;> omega))))); rintro e z5 ⟨_, rfl, rfl, hy5⟩
                         have q5 : Below wc.heap.size wc z5 := (by refine Below.trans ?_ (hy5.mono ?_); rotate_left; (first | exact Nat.le_refl _ | omega | (simp <;> omega)); repeat (first | with_reducible exact q6 | with_reducible exact q5 | with_reducible exact q4 | with_reducible exact q3 | with_reducible exact q2 | with_reducible exact q1 | with_reducible exact q0 | with_reducible exact Below.refl _ _ | with_reducible refine Below.drew ?_ | ((with_reducible refine Below.setCell ?_ ?_ _); rotate_left; (first | omega | (simp <;> omega))) | ((with_reducible refine Below.alloc ?_ ?_ _); rotate_left; (first | exact Nat.le_refl _ | omega | (simp <;> omega)))))
                         have szq5 := q5.size
                         have pz5 : Below z4.heap.size z4 z5 := (by refine Below.trans ?_ (hy5.mono ?_); rotate_left; (first | exact Nat.le_refl _ | omega | (simp <;> omega)); repeat (first | with_reducible exact q6 | with_reducible exact q5 | with_reducible exact q4 | with_reducible exact q3 | with_reducible exact q2 | with_reducible exact q1 | with_reducible exact q0 | with_reducible exact Below.refl _ _ | with_reducible refine Below.drew ?_ | ((with_reducible refine Below.setCell ?_ ?_ _); rotate_left; (first | omega | (simp <;> omega))) | ((with_reducible refine Below.alloc ?_ ?_ _); rotate_left; (first | exact Nat.le_refl _ | omega | (simp <;> omega)))))
                         have spz5 := pz5.size
                         (first | (have BB5 := Lib.hid (zb1 hy5)) | (have BB5 := Lib.hid (BB4.out.below pz5 BB4.out.lt)) | skip))
                      | ((with_reducible refine Calls.mono (HU4.out _ ?_) ?_); (focus refine hgX.below ?_; repeat (first | with_reducible exact q6 | with_reducible exact q5 | with_reducible exact q4 | with_reducible exact q3 | with_reducible exact q2 | with_reducible exact q1 | with_reducible exact q0 | with_reducible exact Below.refl _ _ | with_reducible refine Below.drew ?_ | ((with_reducible refine Below.setCell ?_ ?_ _); rotate_left; (first | omega | (simp <;> omega))) | ((with_reducible refine Below.alloc ?_ ?_ _); rotate_left; (first | exact Nat.le_refl _ | omega | (simp <;> omega))))); rintro e z4 ⟨_, rfl, rfl, hy4⟩
                         have q4 : Below wc.heap.size wc z4 := (by refine Below.trans ?_ (hy4.mono ?_); rotate_left; (first | exact Nat.le_refl _ | omega | (simp <;> omega)); repeat (first | with_reducible exact q6 | with_reducible exact q5 | with_reducible exact q4 | with_reducible exact q3 | with_reducible exact q2 | with_reducible exact q1 | with_reducible exact q0 | with_reducible exact Below.refl _ _ | with_reducible refine Below.drew ?_ | ((with_reducible refine Below.setCell ?_ ?_ _); rotate_left; (first | omega | (simp <;> omega))) | ((with_reducible refine Below.alloc ?_ ?_ _); rotate_left; (first | exact Nat.le_refl _ | omega | (simp <;> omega)))))
                         have szq4 := q4.size
                         have pz4 : Below z3.heap.size z3 z4 := (by refine Below.trans ?_ (hy4.mono ?_); rotate_left; (first | exact Nat.le_refl _ | omega | (simp <;> omega)); repeat (first | with_reducible exact q6 | with_reducible exact q5 | with_reducible exact q4 | with_reducible exact q3 | with_reducible exact q2 | with_reducible exact q1 | with_reducible exact q0 | with_reducible exact Below.refl _ _ | with_reducible refine Below.drew ?_ | ((with_reducible refine Below.setCell ?_ ?_ _); rotate_left; (first | omega | (simp <;> omega))) | ((with_reducible refine Below.alloc ?_ ?_ _); rotate_left; (first | exact Nat.le_refl _ | omega | (simp <;> omega)))))
                         have spz4 := pz4.size
                         (first | (have BB4 := Lib.hid (zb1 hy4)) | (have BB4 := Lib.hid (BB3.out.below pz4 BB3.out.lt)) | skip))
                      | ((with_reducible refine Calls.mono (HU3.out _ ?_) ?_); (focus refine hgX.below ?_; repeat (first | with_reducible exact q6 | with_reducible exact q5 | with_reducible exact q4 | with_reducible exact q3 | with_reducible exact q2 | with_reducible exact q1 | with_reducible exact q0 | with_reducible exact Below.refl _ _ | with_reducible refine Below.drew ?_ | ((with_reducible refine Below.setCell ?_ ?_ _); rotate_left; (first | omega | (simp <;> omega))) | ((with_reducible refine Below.alloc ?_ ?_ _); rotate_left; (first | exact Nat.le_refl _ | omega | (simp <;> omega))))); rintro e z3 ⟨_, rfl, rfl, hy3⟩
                         have q3 : Below wc.heap.size wc z3 := (by refine Below.trans ?_ (hy3.mono ?_); rotate_left; (first | exact Nat.le_refl _ | omega | (simp <;> omega)); repeat (first | with_reducible exact q6 | with_reducible exact q5 | with_reducible exact q4 | with_reducible exact q3 | with_reducible exact q2 | with_reducible exact q1 | with_reducible exact q0 | with_reducible exact Below.refl _ _ | with_reducible refine Below.drew ?_ | ((with_reducible refine Below.setCell ?_ ?_ _); rotate_left; (first | omega | (simp <;> omega))) | ((with_reducible refine Below.alloc ?_ ?_ _); rotate_left; (first | exact Nat.le_refl _ | omega | (simp <;> omega)))))
                         have szq3 := q3.size
                         have pz3 : Below z2.heap.size z2 z3 := (by refine Below.trans ?_ (hy3.mono ?_); rotate_left; (first | exact Nat.le_refl _ | omega | (simp <;> omega)); repeat (first | with_reducible exact q6 | with_reducible exact q5 | with_reducible exact q4 | with_reducible exact q3 | with_reducible exact q2 | with_reducible exact q1 | with_reducible exact q0 | with_reducible exact Below.refl _ _ | with_reducible refine Below.drew ?_ | ((with_reducible refine Below.setCell ?_ ?_ _); rotate_left; (first | omega | (simp <;> omega))) | ((with_reducible refine Below.alloc ?_ ?_ _); rotate_left; (first | exact Nat.le_refl _ | omega | (simp <;> omega)))))
                         have spz3 := pz3.size
                         (first | (have BB3 := Lib.hid (zb1 hy3)) | (have BB3 := Lib.hid (BB2.out.below pz3 BB2.out.lt)) | skip))
                      | ((with_reducible refine Calls.mono (HU2.out _ ?_) ?_); (focus refine hgX.below ?_; repeat (first | with_reducible exact q6 | with_reducible exact q5 | with_reducible exact q4 | with_reducible exact q3 | with_reducible exact q2 | with_reducible exact q1 | with_reducible exact q0 | with_reducible exact Below.refl _ _ | with_reducible refine Below.drew ?_ | ((with_reducible refine Below.setCell ?_ ?_ _); rotate_left; (first | omega | (simp <;> omega))) | ((with_reducible refine Below.alloc ?_ ?_ _); rotate_left; (first | exact Nat.le_refl _ | omega | (simp <;> omega))))); rintro e z2 ⟨_, rfl, rfl, hy2⟩
                         have q2 : Below wc.heap.size wc z2 := (by refine Below.trans ?_ (hy2.mono ?_); rotate_left; (first | exact Nat.le_refl _ | omega | (simp <;> omega)); repeat (first | with_reducible exact q6 | with_reducible exact q5 | with_reducible exact q4 | with_reducible exact q3 | with_reducible exact q2 | with_reducible exact q1 | with_reducible exact q0 | with_reducible exact Below.refl _ _ | with_reducible refine Below.drew ?_ | ((with_reducible refine Below.setCell ?_ ?_ _); rotate_left; (first | omega | (simp <;> omega))) | ((with_reducible refine Below.alloc ?_ ?_ _); rotate_left; (first | exact Nat.le_refl _ | omega | (simp <;> omega)))))
                         have szq2 := q2.size
                         have pz2 : Below z1.heap.size z1 z2 := (by refine Below.trans ?_ (hy2.mono ?_); rotate_left; (first | exact Nat.le_refl _ | omega | (simp <;> omega)); repeat (first | with_reducible exact q6 | with_reducible exact q5 | with_reducible exact q4 | with_reducible exact q3 | with_reducible exact q2 | with_reducible exact q1 | with_reducible exact q0 | with_reducible exact Below.refl _ _ | with_reducible refine Below.drew ?_ | ((with_reducible refine Below.setCell ?_ ?_ _); rotate_left; (first | omega | (simp <;> omega))) | ((with_reducible refine Below.alloc ?_ ?_ _); rotate_left; (first | exact Nat.le_refl _ | omega | (simp <;> omega)))))
                         have spz2 := pz2.size
                         (first | (have BB2 := Lib.hid (zb1 hy2)) | (have BB2 := Lib.hid (BB1.out.below pz2 BB1.out.lt)) | skip))
                      | ((with_reducible refine Calls.mono (HU1.out _ ?_) ?_); (focus refine hgX.below ?_; repeat (first | with_reducible exact q6 | with_reducible exact q5 | with_reducible exact q4 | with_reducible exact q3 | with_reducible exact q2 | with_reducible exact q1 | with_reducible exact q0 | with_reducible exact Below.refl _ _ | with_reducible refine Below.drew ?_ | ((with_reducible refine Below.setCell ?_ ?_ _); rotate_left; (first | omega | (simp <;> omega))) | ((with_reducible refine Below.alloc ?_ ?_ _); rotate_left; (first | exact Nat.le_refl _ | omega | (simp <;> omega))))); rintro e z1 ⟨_, rfl, rfl, hy1⟩
                         have q1 : Below wc.heap.size wc z1 := (by refine Below.trans ?_ (hy1.mono ?_); rotate_left; (first | exact Nat.le_refl _ | omega | (simp <;> omega)); repeat (first | with_reducible exact q6 | with_reducible exact q5 | with_reducible exact q4 | with_reducible exact q3 | with_reducible exact q2 | with_reducible exact q1 | with_reducible exact q0 | with_reducible exact Below.refl _ _ | with_reducible refine Below.drew ?_ | ((with_reducible refine Below.setCell ?_ ?_ _); rotate_left; (first | omega | (simp <;> omega))) | ((with_reducible refine Below.alloc ?_ ?_ _); rotate_left; (first | exact Nat.le_refl _ | omega | (simp <;> omega)))))
                         have szq1 := q1.size
                         (first | (have BB1 := Lib.hid (zb1d hy1)) | skip)))
                  all_goals
                    go_wp2_with fail
                    go_meet
                    refine ⟨_, rfl, ?_, ?_⟩
                    · repeat (first | with_reducible exact BB6.out | with_reducible refine box_set2 ?_ | ((with_reducible refine box_newE _ _ _ _ _ ?_); (first | rfl | (simp <;> omega))))
                    · repeat (first | with_reducible exact q6 | with_reducible exact q5 | with_reducible exact q4 | with_reducible exact q3 | with_reducible exact q2 | with_reducible exact q1 | with_reducible exact q0 | with_reducible exact Below.refl _ _ | with_reducible refine Below.drew ?_ | ((with_reducible refine Below.setCell ?_ ?_ _); rotate_left; (first | omega | (simp <;> omega))) | ((with_reducible refine Below.alloc ?_ ?_ _); rotate_left; (first | exact Nat.le_refl _ | omega | (simp <;> omega))))
              case rest =>
                obtain ⟨b18, rfl, hbp, hc3⟩ := hcut
                have hb10 := hb9.trans (hc3.mono hb9.size)
                have w0 := (hc3.cell (p := ⟨bl, ol + i * 3, none⟩) (Nat.lt_of_lt_of_le hblc hc2.size)).trans w0
                have b7c := b76.below hb10 b76.lt
                have hgc := hg.below (hB6.trans (hb10.mono hB6.size))
                have h2c := h26.trans (hb10.mono h26.size)
                have m0 := b7c.cell 0 rfl
                have m1 := b7c.cell 1 rfl
                have n0 := hbp.cell 0 rfl
                have n1 := hbp.cell 1 rfl
                have hSP : SzP 200 (pX, pY) := by rw [← HPT.out]; exact HSZ.out.2
                have HLC2 := Lib.hid (HLO.out (pX, pY) hSP)
                have HLOC2 : Hid (locN P T (pX, pY) T.length = (s.1 : Int) :: l') := by unfold Hid; rw [← HPT.out]; exact HLOC.out
                clear p0 p1 r0 r1 HU1 HU2 HU3 HU4 HU5 HU6 hSP HLOC HPT
                go_wp2_with fail
                refine (HLC2.out wc _ _ (RdC.below HPP.out h2c) (RdC.below HTT.out h2c) hgc).mono ?_
                rintro e w11 ⟨_, rfl, ⟨vq, rfl, hq⟩, hb11⟩
                have hb12 := hb10.trans (hb11.mono hb10.size)
                have w0 := (hb11.cell (p := ⟨bl, ol + i * 3, none⟩) (Nat.lt_of_lt_of_le (Nat.lt_of_lt_of_le hblc hc2.size) hc3.size)).trans w0
                rw [HLOC2.out] at hq
                obtain ⟨pq, cq, rfl, hq1, hq2, hq3⟩ := hq.open
                obtain ⟨bq2, oq2, rfl, hbq2, hcq⟩ := hq3 (by simp)
                have k0 := hcq 0 (by simp)
                simp only [List.getElem_cons_zero, List.length_cons, Nat.add_zero] at k0 hq1
                rw [show ((s.1 : Int) :: l').length = l'.length + 1 from rfl]
                have hlz : ¬ ((l'.length + 1 : Nat) : Int) = 0 := by omega
                have hlz2 : (0 : Int) < ((l'.length + 1 : Nat) : Int) := by omega
                clear m0 m1 n0 n1 hcq hq3 HLC2
                go_upto_region 22 with fail
                go_cut [189] (fun s189 wx => s189 = .bool false ∧ Below w11.heap.size w11 wx)
                case first =>
                  as_aux_lemma =>
                    go_region_held3 (fun w' => w'.cell? ⟨bq2, oq2, none⟩ = some (.int .i64 (s.1 : Int)) ∧ w'.cell? ⟨bl, ol + i * 3, none⟩ = some (.int .i64 (s.1 : Int)))
                      (exact ⟨k0, w0⟩)
                      (first | fail)
                    all_goals
                      go_wp2_with fail
                      go_meet
                      exact ⟨rfl, below_drewN w11 1⟩
                case rest =>
                  obtain ⟨rfl, hc4⟩ := hcut
                  have hb13 := hb12.trans (hc4.mono hb12.size)
                  clear k0 w0
                  go_wp2_with fail
                  go_roundw
                  case rel => exact ⟨i + 1, s.2.2, by go_num, by omega, rfl, HNX, hb13⟩
                  case measure =>
                    show L.length - ((i : Int) + 1).toNat < L.length - (i : Int).toNat
                    omega
        · as_aux_lemma =>
            have hige : ¬ (i : Int) < (L.length : Int) := by omega
            have za200 : SzP 200 a := ⟨HZA.out.1.mono (by omega), HZA.out.2.mono (by omega)⟩
            have zb200 : SzP 200 b := ⟨HZB.out.1.mono (by omega), HZB.out.2.mono (by omega)⟩
            obtain ⟨dA, hdA⟩ : ∃ d, d = decide ((0 : Int) < ((locN P T a T.length).length : Int)) := ⟨_, rfl⟩
            obtain ⟨dB, hdB⟩ : ∃ d, d = decide ((0 : Int) < ((locN P T b T.length).length : Int)) := ⟨_, rfl⟩
            have HCA := Lib.hid (HCT.out a za200)
            have HCB := Lib.hid (HCT.out b zb200)
            rw [← hdA] at HCA
            rw [← hdB] at HCB
            have HSUM : Hid (dA = true → dB = true → sumS L = 1) := fun h1 h2 => HS5.out ((locN_in P T a).1 (of_decide_eq_true (hdA ▸ h1))) ((locN_in P T b).1 (of_decide_eq_true (hdB ▸ h2)))
            have HSD : Hid (∀ n, n ≤ L.length → Sz 1100 (sumS (L.take n))) := fun n hn => (sumS_Sz HLZ.out n).mono (by omega)
            have m0 := b7r.cell 0 rfl
            have m1 := b7r.cell 1 rfl
            have p0 := hTr.1.cell 0 rfl
            have p1 := hTr.1.cell 1 rfl
            clear hdA hdB za200 zb200 HCT HLO HS2 HS3 HS4 HS5
            go_wp2_with fail
            refine (HCA.out wr _ _ (RdC.below HPP.out hbr2) (RdC.below HTT.out hbr2) (hg.below hbW)).mono ?_
            rintro e v1 ⟨_, rfl, rfl, hv1⟩
            have hb1 := hbr.trans (hv1.mono hbr.size)
            have hW1 := hbW.trans (hv1.mono hbW.size)
            have h21 := hbr2.trans (hv1.mono hbr2.size)
            have b71 := b7r.below hv1 b7r.lt
            have hT1 := hTr.below hv1
            clear m0 m1 p0 p1 b7r hTr hv1 hbW hbr2 hbr
            have m0 := b71.cell 0 rfl
            have m1 := b71.cell 1 rfl
            have r0 := hT1.2.cell 0 rfl
            have r1 := hT1.2.cell 1 rfl
            go_wp2_with fail
            refine (HCB.out v1 _ _ (RdC.below HPP.out h21) (RdC.below HTT.out h21) (hg.below hW1)).mono ?_
            rintro e v2 ⟨_, rfl, rfl, hv2⟩
            have hb2 := hb1.trans (hv2.mono hb1.size)
            have hW2 := hW1.trans (hv2.mono hW1.size)
            clear m0 m1 r0 r1 b71 hT1 hv2 hW1 hb1 h21 HCA HCB
            rcases dA with _ | _
            · go_wp2_with fail
              go_ret
              exact ⟨_, rfl, rfl, hW2⟩
            · rcases dB with _ | _
              · go_wp2_with fail
                go_ret
                exact ⟨_, rfl, rfl, hW2⟩
              · have HS1 := Lib.hid (HSUM.out rfl rfl)
                clear HSUM
                go_wp2_with fail
                go_loopw [23, 24] (fun t23 t24 wx => ∃ j : Nat, t24 = .int .i64 j ∧ j ≤ L.length ∧ t23 = .string (RS (sumS (L.take j))) ∧ Below v2.heap.size v2 wx) (fun _ t24 _ => L.length - (RowKit.intOf t24).toNat)
                case atStart => exact ⟨0, rfl, Nat.zero_le _, by rw [show sumS (L.take 0) = 0 from rfl, RS_zero], Below.refl _ _⟩
                case round =>
                  obtain ⟨j, rfl, hj, rfl, hbx⟩ := hrel
                  rcases Nat.lt_or_ge j L.length with h2 | h2
                  · obtain ⟨s, hs⟩ : ∃ s, L[j]? = some s := ⟨_, List.getElem?_eq_getElem h2⟩
                    obtain ⟨bl, ol, rfl, hbl, x0', x1', x2'⟩ := HLC.out j s hs
                    have hbl2 : bl < v2.heap.size := Nat.lt_of_lt_of_le hbl hb2.size
                    have x1 := (hbx.cell (p := ⟨bl, ol + j * 3 + 1, none⟩) hbl2).trans ((hb2.cell (p := ⟨bl, ol + j * 3 + 1, none⟩) hbl).trans x1')
                    have x2 := (hbx.cell (p := ⟨bl, ol + j * 3 + 2, none⟩) hbl2).trans ((hb2.cell (p := ⟨bl, ol + j * 3 + 2, none⟩) hbl).trans x2')
                    obtain ⟨zx, zy⟩ := HLZ.out s (List.mem_of_getElem? hs)
                    have HD : Hid (∀ w, Good w → _) := fun w hg => ratSub_any s.2.2 s.2.1 88 (by omega) (by omega) zy zx w hg
                    have HA : Hid (∀ w, Good w → Calls Tryz.prog 18 #[.string (RS (sumS (L.take j))), .string (RS (s.2.2 - s.2.1))] w (Ret (fun v _ => v = .string (RS (sumS (L.take (j + 1))))) w)) := fun w hg => by
                      rw [sumS_succ hs]
                      exact ratAdd_any _ _ 1100 (by omega) (by omega) (HSD.out j hj) ((zy.sub zx).mono (by omega)) w hg
                    have hjz : (j : Int) < (L.length : Int) := by omega
                    have hlr : bl < wr.heap.size := Nat.lt_of_lt_of_le hbl2 hbx.size
                    have hgd : Good wr.drew := (hg.below (hW2.trans (hbx.mono hW2.size))).drewN 1
                    clear hs x0' x1' x2' zx zy
                    go_upto_region 32 with fail
                    go_region_held3 (fun w' => w'.cell? ⟨bl, ol + j * 3 + 2, none⟩ = some (.string (RS s.2.2)) ∧ w'.cell? ⟨bl, ol + j * 3 + 1, none⟩ = some (.string (RS s.2.1)))
                      (first | exact ⟨x2, x1⟩ | exact ⟨p_1_0, p_1_1⟩ | exact ⟨p_2_0, p_2_1⟩)
                      (first
                      | (go_at_call 18; refine (HA.out _ pg1).mono ?_; rintro e pw2 ⟨_, rfl, rfl, pb2⟩
                         have p_2_0 := (pb2.cell (p := ⟨bl, ol + j * 3 + 2, none⟩) (by show bl < pw1.heap.size; omega)).trans p_1_0
                         have p_2_1 := (pb2.cell (p := ⟨bl, ol + j * 3 + 1, none⟩) (by show bl < pw1.heap.size; omega)).trans p_1_1
                         have ps2 : pw1.heap.size ≤ pw2.heap.size := pb2.size
                         have pg2 : Good pw2 := pg1.below pb2)
                      | (go_at_call 20; refine (HD.out _ hgd).mono ?_; rintro e pw1 ⟨_, rfl, rfl, pb1⟩
                         have p_1_0 := (pb1.cell (p := ⟨bl, ol + j * 3 + 2, none⟩) (by show bl < wr.heap.size; omega)).trans x2
                         have p_1_1 := (pb1.cell (p := ⟨bl, ol + j * 3 + 1, none⟩) (by show bl < wr.heap.size; omega)).trans x1
                         have ps1 : wr.heap.size ≤ pw1.heap.size := pb1.size
                         have pg1 : Good pw1 := hgd.below pb1))
                    have pB : Below wr.heap.size wr pw2 := (((below_drewN wr 1).trans (pb1.mono (by show wr.heap.size ≤ wr.heap.size; omega))).trans (pb2.mono (by show wr.heap.size ≤ pw1.heap.size; omega)))
                    have hbp := hbx.trans (pB.mono hbx.size)
                    go_wp2_with fail
                    go_roundw
                    case rel => exact ⟨j + 1, by go_num, by omega, rfl, hbp⟩
                    case measure => simp [RowKit.intOf]; omega
                  · have hjn : ¬ (j : Int) < (L.length : Int) := by omega
                    rw [List.take_of_length_le h2, HS1.out, RS_one]
                    go_wp2_with fail
                    go_ret
                    exact ⟨_, rfl, rfl, hW2.trans (hbx.mono hW2.size)⟩

set_option maxHeartbeats 8000000 in
set_option maxRecDepth 100000 in
theorem ms_same (w : World) (kz s0 s1 : Int) (half : Bool) (x0 x1 y0 y1 : Int) (hk0 : 0 ≤ kz) (hk1 : kz ≤ 255) (hs0 : -128 ≤ s0 ∧ s0 ≤ 127) (hs1 : -128 ≤ s1 ∧ s1 ≤ 127)
    (hx0 : -128 ≤ x0 ∧ x0 ≤ 127) (hx1 : -128 ≤ x1 ∧ x1 ≤ 127) (hy0 : -128 ≤ y0 ∧ y0 ≤ 127) (hy1 : -128 ≤ y1 ∧ y1 ≤ 127) (hab0 : (placeB 2 s0 half x0, placeB 2 s1 half x1) = (placeB 2 s0 half y0, placeB 2 s1 half y1)) (hg : Good w) :
    Calls Tryz.prog 7 #[.agg #[.int .u8 kz, .int .i8 s0, .int .i8 s1, .bool half], .agg #[.int .i8 x0, .int .i8 x1], .agg #[.int .i8 y0, .int .i8 y1]] w (Ret (fun r _ => r = .bool true) w) := by
  obtain ⟨k, hk⟩ : ∃ k : Nat, kz.tmod 8 = (k : Int) := ⟨(kz.tmod 8).toNat, by have := Int.tmod_nonneg 8 hk0; omega⟩
  have HMK := Lib.hid fun w hg => make12_any w kz s0 s1 half k hk hk0 hk1 hs0 hs1 hg
  have HPL := Lib.hid fun w hg => place2_any w kz s0 s1 half x0 x1 hs0 hs1 hx0 hx1 hg
  have HPM := Lib.hid fun w hg => place2_any w kz s0 s1 half y0 y1 hs0 hs1 hy0 hy1 hg
  have hM := sheet_ok k s0 s1 half
  have hT4 : (shapeT k).length ≤ 6 := by unfold shapeT; split <;> decide
  obtain ⟨a, ha⟩ : ∃ p : PtQ, p = (placeB 2 s0 half x0, placeB 2 s1 half x1) := ⟨_, rfl⟩
  obtain ⟨b, hb⟩ : ∃ p : PtQ, p = (placeB 2 s0 half y0, placeB 2 s1 half y1) := ⟨_, rfl⟩
  have za : SzP 3 a := by rw [ha]; exact ⟨placeB_Sz 2 (by omega) (by omega) _ _ _ hx0, placeB_Sz 2 (by omega) (by omega) _ _ _ hx1⟩
  have zb : SzP 3 b := by rw [hb]; exact ⟨placeB_Sz 2 (by omega) (by omega) _ _ _ hy0, placeB_Sz 2 (by omega) (by omega) _ _ _ hy1⟩
  rw [show placeB 2 s0 half x0 = a.1 by rw [ha], show placeB 2 s1 half x1 = a.2 by rw [ha]] at HPL
  rw [show placeB 2 s0 half y0 = b.1 by rw [hb], show placeB 2 s1 half y1 = b.2 by rw [hb]] at HPM
  have hab : b = a := by rw [ha, hb]; exact hab0.symm
  clear hab0
  generalize sheetP k s0 s1 half = P at *
  generalize shapeT k = T at *
  have HM := Lib.hid hM
  have HZA := Lib.hid za
  have HZB := Lib.hid zb
  have HAL : Hid (∀ (w : World) (vp vt : Value), RdP w vp (strP P) → RdT w vt T → Good w → _) := fun w vp vt hp ht hg => along_zero w vp vt P T 2 3 hp ht HM.out (by omega) (by omega) a HZA.out hg
  have hn8 : T.length ≤ 6 := hT4
  clear hk hk0 hk1 hs0 hs1 hx0 hx1 hy0 hy1 hM za zb hT4 ha hb
  rw [hab] at HPM
  clear hab HZB b
  go_enter Tryz.func7, Tryz.ntmps7
  go_wp2_with fail
  obtain ⟨W, hW⟩ : ∃ W, W = ((w.alloc (.cells #[.int .u8 kz, .int .i8 s0, .int .i8 s1, .bool half] 49)).alloc (.cells #[.int .i8 x0, .int .i8 x1] 47)).alloc (.cells #[.int .i8 y0, .int .i8 y1] 47) := ⟨_, rfl⟩
  have hB : Below w.heap.size w W := by rw [hW]; exact (((Below.refl _ _).alloc (Nat.le_refl _) _).alloc (by simp) _).alloc (by simp; omega) _
  have b5 : BoxN W (w.heap.size + 1 + 1) 47 [.int .i8 y0, .int .i8 y1] := by rw [hW]; exact BoxN.new _ _ _ _ (by simp)
  have b4 : BoxN W (w.heap.size + 1) 47 [.int .i8 x0, .int .i8 x1] := by
    rw [hW]
    have h1 := (BoxN.new (w.alloc (.cells #[.int .u8 kz, .int .i8 s0, .int .i8 s1, .bool half] 49)) #[.int .i8 x0, .int .i8 x1] 47 (w.heap.size + 1) (by simp))
    exact h1.below ((Below.refl _ _).alloc (Nat.le_refl _) _) h1.lt
  have b3 : BoxN W w.heap.size 49 [.int .u8 kz, .int .i8 s0, .int .i8 s1, .bool half] := by
    rw [hW]
    have h1 := (BoxN.new w #[.int .u8 kz, .int .i8 s0, .int .i8 s1, .bool half] 49 _ rfl)
    exact h1.below (((Below.refl _ _).alloc (Nat.le_refl _) _).alloc (by simp) _) h1.lt
  rw [← hW]
  clear hW
  refine (known12_any W (hg.below hB)).mono ?_
  rintro e o1 ⟨_, rfl, rfl, hb1⟩
  have hB1 := hB.trans (hb1.mono hB.size)
  have b51 := b5.below hb1 b5.lt
  have b41 := b4.below hb1 b4.lt
  have b31 := b3.below hb1 b3.lt
  clear hb1 hB b5 b4 b3
  have k0 := b31.cell 0 rfl
  have k1 := b31.cell 1 rfl
  have k2 := b31.cell 2 rfl
  have k3 := b31.cell 3 rfl
  go_wp2_with fail
  refine (HMK.out o1 (hg.below hB1)).mono ?_
  rintro e o2 ⟨_, rfl, ⟨vp, vt, rfl, hp, ht⟩, hb2⟩
  have hB2 := hB1.trans (hb2.mono hB1.size)
  have b52 := b51.below hb2 b51.lt
  have b42 := b41.below hb2 b41.lt
  have b32 := b31.below hb2 b31.lt
  obtain ⟨pp, cp, rfl, -, -, -⟩ := hp.open
  obtain ⟨pt, ct, rfl, -, -, -⟩ := ht.open
  rw [strP_length] at *
  have HPP := Lib.hid hp
  have HTT := Lib.hid ht
  clear hb2 hB1 b51 b41 b31 hp ht k0 k1 k2 k3
  obtain ⟨o3, ho3⟩ : ∃ W, W = o2.alloc (.cells #[.slice pp P.length cp, .slice pt T.length ct] 34) := ⟨_, rfl⟩
  have hb3 : Below o2.heap.size o2 o3 := by rw [ho3]; exact (Below.refl _ _).alloc (Nat.le_refl _) _
  have b7 : BoxN o3 o2.heap.size 34 [.slice pp P.length cp, .slice pt T.length ct] := by rw [ho3]; exact BoxN.new _ _ _ _ rfl
  have hB3 := hB2.trans (hb3.mono hB2.size)
  have b53 := b52.below hb3 b52.lt
  have b43 := b42.below hb3 b42.lt
  have b33 := b32.below hb3 b32.lt
  go_upto_region 4 with fail
  rw [← ho3]
  clear ho3 b52 b42 b32 hB2
  have k0 := b33.cell 0 rfl
  have k1 := b33.cell 1 rfl
  have k2 := b33.cell 2 rfl
  have k3 := b33.cell 3 rfl
  have i0 := b43.cell 0 rfl
  have i1 := b43.cell 1 rfl
  have j0 := b53.cell 0 rfl
  have j1 := b53.cell 1 rfl
  have hg3 := hg.below hB3
  have hl3 := b33.lt
  have hl4 := b43.lt
  have hl5 := b53.lt
  go_cut [8, 9] (fun s8 s9 wx => ∃ b8 b9 : Nat, s8 = .pointer (some ⟨b8, 0, none⟩) ∧ s9 = .pointer (some ⟨b9, 0, none⟩) ∧ TwoP wx b8 b9 a a ∧ Below o3.heap.size o3 wx)
  case first =>
    as_aux_lemma =>
      have q0 : Below o3.heap.size o3 o3.drew := below_drewN o3 1
      have g0 : Good o3.drew := hg3.drewN 1
      have HS : Hid (∀ w', Below o3.heap.size o3 w' → (w'.cell? ⟨w.heap.size, 0, none⟩ = some (.int .u8 kz) ∧ w'.cell? ⟨w.heap.size, 1, none⟩ = some (.int .i8 s0) ∧ w'.cell? ⟨w.heap.size, 2, none⟩ = some (.int .i8 s1) ∧ w'.cell? ⟨w.heap.size, 3, none⟩ = some (.bool half)) ∧
          (w'.cell? ⟨w.heap.size + 1, 0, none⟩ = some (.int .i8 x0) ∧ w'.cell? ⟨w.heap.size + 1, 1, none⟩ = some (.int .i8 x1)) ∧ w'.cell? ⟨w.heap.size + 1 + 1, 0, none⟩ = some (.int .i8 y0) ∧ w'.cell? ⟨w.heap.size + 1 + 1, 1, none⟩ = some (.int .i8 y1)) := fun w' hb =>
        ⟨⟨(hb.cell (p := ⟨w.heap.size, 0, none⟩) hl3).trans k0, (hb.cell (p := ⟨w.heap.size, 1, none⟩) hl3).trans k1, (hb.cell (p := ⟨w.heap.size, 2, none⟩) hl3).trans k2, (hb.cell (p := ⟨w.heap.size, 3, none⟩) hl3).trans k3⟩, ⟨(hb.cell (p := ⟨w.heap.size + 1, 0, none⟩) hl4).trans i0, (hb.cell (p := ⟨w.heap.size + 1, 1, none⟩) hl4).trans i1⟩, (hb.cell (p := ⟨w.heap.size + 1 + 1, 0, none⟩) hl5).trans j0, (hb.cell (p := ⟨w.heap.size + 1 + 1, 1, none⟩) hl5).trans j1⟩
      go_region_held3 (fun w' => (w'.cell? ⟨w.heap.size, 0, none⟩ = some (.int .u8 kz) ∧ w'.cell? ⟨w.heap.size, 1, none⟩ = some (.int .i8 s0) ∧ w'.cell? ⟨w.heap.size, 2, none⟩ = some (.int .i8 s1) ∧ w'.cell? ⟨w.heap.size, 3, none⟩ = some (.bool half)) ∧
          (w'.cell? ⟨w.heap.size + 1, 0, none⟩ = some (.int .i8 x0) ∧ w'.cell? ⟨w.heap.size + 1, 1, none⟩ = some (.int .i8 x1)) ∧ w'.cell? ⟨w.heap.size + 1 + 1, 0, none⟩ = some (.int .i8 y0) ∧ w'.cell? ⟨w.heap.size + 1 + 1, 1, none⟩ = some (.int .i8 y1))
        ((refine HS.out _ ?_; repeat (first | with_reducible exact q2 | with_reducible exact q1 | with_reducible exact q0 | with_reducible exact Below.refl _ _ | with_reducible refine Below.drew ?_ | ((with_reducible refine Below.setCell ?_ ?_ _); rotate_left; (first | omega | (simp <;> omega))) | ((with_reducible refine Below.alloc ?_ ?_ _); rotate_left; (first | exact Nat.le_refl _ | omega | (simp <;> omega))))))
        (first
          | ((with_reducible refine Calls.mono (HPM.out _ ?_) ?_); (focus refine hg3.below ?_; repeat (first | with_reducible exact q2 | with_reducible exact q1 | with_reducible exact q0 | with_reducible exact Below.refl _ _ | with_reducible refine Below.drew ?_ | ((with_reducible refine Below.setCell ?_ ?_ _); rotate_left; (first | omega | (simp <;> omega))) | ((with_reducible refine Below.alloc ?_ ?_ _); rotate_left; (first | exact Nat.le_refl _ | omega | (simp <;> omega))))); rintro e z2 ⟨_, rfl, rfl, hy2⟩
             have q2 : Below o3.heap.size o3 z2 := (by refine Below.trans ?_ (hy2.mono ?_); rotate_left; (first | exact Nat.le_refl _ | omega | (simp <;> omega)); repeat (first | with_reducible exact q2 | with_reducible exact q1 | with_reducible exact q0 | with_reducible exact Below.refl _ _ | with_reducible refine Below.drew ?_ | ((with_reducible refine Below.setCell ?_ ?_ _); rotate_left; (first | omega | (simp <;> omega))) | ((with_reducible refine Below.alloc ?_ ?_ _); rotate_left; (first | exact Nat.le_refl _ | omega | (simp <;> omega)))))
             have sz2 := q2.size
             have p2 : Below z1.heap.size z1 z2 := (by refine Below.trans ?_ (hy2.mono ?_); rotate_left; (first | exact Nat.le_refl _ | omega | (simp <;> omega)); repeat (first | with_reducible exact q2 | with_reducible exact q1 | with_reducible exact q0 | with_reducible exact Below.refl _ _ | with_reducible refine Below.drew ?_ | ((with_reducible refine Below.setCell ?_ ?_ _); rotate_left; (first | omega | (simp <;> omega))) | ((with_reducible refine Below.alloc ?_ ?_ _); rotate_left; (first | exact Nat.le_refl _ | omega | (simp <;> omega)))))
             have sz12 := p2.size
             (try have H8 := Lib.hid (E8.out.below p2 E8.out.lt))
             (try have H9 := Lib.hid (E9.out.below p2 E9.out.lt))
             (first | (have D := zb2 hy2; have D8 := Lib.hid D.1; have D9 := Lib.hid D.2; clear D) | (have D8 := Lib.hid (zb1 hy2)) | skip)
             (first | (have H8f := BoxF.of H8.out; obtain ⟨u1, u2, u3, u4, u5⟩ := H8f) | skip)
             (first | (have H9f := BoxF.of H9.out; obtain ⟨u6, u7, u8, u9, u10⟩ := H9f) | skip)
             (first | (have D8f := BoxF.of D8.out; obtain ⟨v1, v2, v3, v4, v5⟩ := D8f) | skip)
             (first | (have D9f := BoxF.of D9.out; obtain ⟨v6, v7, v8, v9, v10⟩ := D9f) | skip)
             (try have n1 := Nat.ne_of_lt E8.out.lt)
             (try have n2 := n1.symm)
             (try have n3 := Nat.ne_of_lt E9.out.lt)
             (try have n4 := n3.symm)
             (try have n5 := Nat.ne_of_lt u5)
             (try have n6 := n5.symm)
             (try have n7 := Nat.ne_of_lt u10)
             (try have n8 := n7.symm)
             (try have n9 := Nat.ne_of_lt v5)
             (try have n10 := n9.symm)
             (try have n11 := Nat.ne_of_lt v10)
             (try have n12 := n11.symm))
          | ((with_reducible refine Calls.mono (HPL.out _ ?_) ?_); (focus refine hg3.below ?_; repeat (first | with_reducible exact q2 | with_reducible exact q1 | with_reducible exact q0 | with_reducible exact Below.refl _ _ | with_reducible refine Below.drew ?_ | ((with_reducible refine Below.setCell ?_ ?_ _); rotate_left; (first | omega | (simp <;> omega))) | ((with_reducible refine Below.alloc ?_ ?_ _); rotate_left; (first | exact Nat.le_refl _ | omega | (simp <;> omega))))); rintro e z1 ⟨_, rfl, rfl, hy1⟩
             have q1 : Below o3.heap.size o3 z1 := (by refine Below.trans ?_ (hy1.mono ?_); rotate_left; (first | exact Nat.le_refl _ | omega | (simp <;> omega)); repeat (first | with_reducible exact q2 | with_reducible exact q1 | with_reducible exact q0 | with_reducible exact Below.refl _ _ | with_reducible refine Below.drew ?_ | ((with_reducible refine Below.setCell ?_ ?_ _); rotate_left; (first | omega | (simp <;> omega))) | ((with_reducible refine Below.alloc ?_ ?_ _); rotate_left; (first | exact Nat.le_refl _ | omega | (simp <;> omega)))))
             have sz1 := q1.size
             (first | (have D := zb2d hy1; have E8 := Lib.hid D.1; have E9 := Lib.hid D.2; clear D) | (have E8 := Lib.hid (zb1d hy1)) | skip)))
      all_goals
        go_wp2_with fail
        go_meet
        refine ⟨_, _, rfl, rfl, ⟨?_, ?_⟩, ?_⟩
        · repeat (first | with_reducible exact H8.out | with_reducible exact H9.out | with_reducible exact D8.out | with_reducible exact D9.out | with_reducible refine box_set2 ?_ | ((with_reducible refine box_far2 ?_ ?_); rotate_left; (first | assumption | omega)) | ((with_reducible refine box_newE _ _ _ _ _ ?_); (first | rfl | (simp <;> omega))) | with_reducible refine BoxN.alloc ?_ _)
        · repeat (first | with_reducible exact H8.out | with_reducible exact H9.out | with_reducible exact D8.out | with_reducible exact D9.out | with_reducible refine box_set2 ?_ | ((with_reducible refine box_far2 ?_ ?_); rotate_left; (first | assumption | omega)) | ((with_reducible refine box_newE _ _ _ _ _ ?_); (first | rfl | (simp <;> omega))) | with_reducible refine BoxN.alloc ?_ _)
        · repeat (first | with_reducible exact q2 | with_reducible exact q1 | with_reducible exact q0 | with_reducible exact Below.refl _ _ | with_reducible refine Below.drew ?_ | ((with_reducible refine Below.setCell ?_ ?_ _); rotate_left; (first | omega | (simp <;> omega))) | ((with_reducible refine Below.alloc ?_ ?_ _); rotate_left; (first | exact Nat.le_refl _ | omega | (simp <;> omega))))
  case rest =>
    obtain ⟨b8, b9, rfl, rfl, hTW, hb4⟩ := hcut
    have hB4 := hB3.trans (hb4.mono hB3.size)
    have h24 : Below o2.heap.size o2 wc := hb3.trans (hb4.mono hb3.size)
    have b74 := b7.below hb4 b7.lt
    have m0 := b74.cell 0 rfl
    have m1 := b74.cell 1 rfl
    have p0 := hTW.1.cell 0 rfl
    have p1 := hTW.1.cell 1 rfl
    have r0 := hTW.2.cell 0 rfl
    have r1 := hTW.2.cell 1 rfl
    clear k0 k1 k2 k3 i0 i1 j0 j1 b33 b43 b53 b7 hb3 hb4 hB3 hg3 hl3 hl4 hl5 HPL HPM HMK
    go_wp2_with fail
    refine (HAL.out wc _ _ (RdC.below HPP.out h24) (RdC.below HTT.out h24) (hg.below hB4)).mono ?_
    rintro e o5 ⟨_, rfl, rfl, hb5⟩
    have hB5 := hB4.trans (hb5.mono hB4.size)
    have h25 := h24.trans (hb5.mono h24.size)
    have b75 := b74.below hb5 b74.lt
    have hTW5 := hTW.below hb5
    clear m0 m1 p0 p1 r0 r1 b74 hTW hb5 hB4 h24
    have m0 := b75.cell 0 rfl
    have m1 := b75.cell 1 rfl
    have p0 := hTW5.1.cell 0 rfl
    have p1 := hTW5.1.cell 1 rfl
    have r0 := hTW5.2.cell 0 rfl
    have r1 := hTW5.2.cell 1 rfl
    go_wp2_with fail
    refine (HAL.out o5 _ _ (RdC.below HPP.out h25) (RdC.below HTT.out h25) (hg.below hB5)).mono ?_
    rintro e o6 ⟨_, rfl, rfl, hb6⟩
    have hB6 := hB5.trans (hb6.mono hB5.size)
    have hTW6 := hTW5.below hb6
    clear m0 m1 p0 p1 r0 r1 b75 hTW5 hb6 hB5 h25 HAL
    have p0 := hTW6.1.cell 0 rfl
    have p1 := hTW6.1.cell 1 rfl
    have r0 := hTW6.2.cell 0 rfl
    have r1 := hTW6.2.cell 1 rfl
    go_wp2_with fail
    go_ret
    exact ⟨_, rfl, rfl, hB6⟩

theorem meshSpans_all (w : World) (kz s0 s1 : Int) (half : Bool) (x0 x1 y0 y1 : Int) (hk0 : 0 ≤ kz) (hk1 : kz ≤ 255) (hs0 : -128 ≤ s0 ∧ s0 ≤ 127) (hs1 : -128 ≤ s1 ∧ s1 ≤ 127)
    (hx0 : -128 ≤ x0 ∧ x0 ≤ 127) (hx1 : -128 ≤ x1 ∧ x1 ≤ 127) (hy0 : -128 ≤ y0 ∧ y0 ≤ 127) (hy1 : -128 ≤ y1 ∧ y1 ≤ 127) (hg : Good w) :
    Calls Tryz.prog 7 #[.agg #[.int .u8 kz, .int .i8 s0, .int .i8 s1, .bool half], .agg #[.int .i8 x0, .int .i8 x1], .agg #[.int .i8 y0, .int .i8 y1]] w (Ret (fun r _ => r = .bool true) w) := by
  by_cases h : (placeB 2 s0 half x0, placeB 2 s1 half x1) = (placeB 2 s0 half y0, placeB 2 s1 half y1)
  · exact ms_same w kz s0 s1 half x0 x1 y0 y1 hk0 hk1 hs0 hs1 hx0 hx1 hy0 hy1 h hg
  · exact ms_diff w kz s0 s1 half x0 x1 y0 y1 hk0 hk1 hs0 hs1 hx0 hx1 hy0 hy1 h hg

end Go.Proofs.YtccngnjkehibiaaGreatDoor
