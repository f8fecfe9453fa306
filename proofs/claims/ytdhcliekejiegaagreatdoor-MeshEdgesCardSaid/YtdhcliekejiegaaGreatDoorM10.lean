/- The walks over klippelaw12.same and klippelaw12.known. -/
import Derived.Test.YtdhcliekejiegaaGreatDoorM9
namespace Go.Proofs.YtdhcliekejiegaaGreatDoor
open Go.RowKit Go.Lib

set_option maxHeartbeats 1000000 in
theorem same_any (w : World) (v1 v2 : Value) (l1 l2 : List Int) (h1 : RdI .i64 w v1 l1) (h2 : RdI .i64 w v2 l2) (hl1 : l1.length ≤ 1000000) (hl2 : l2.length ≤ 1000000) :
    Calls Tryz.prog 18 #[v1, v2] w (Drawn (fun r => r = .bool (decide (l1 = l2))) w) := by
  obtain ⟨p1, c1, rfl, _, _, hr1⟩ := h1.open
  obtain ⟨p2, c2, rfl, _, _, hr2⟩ := h2.open
  have HR1 := Lib.hid hr1
  have HR2 := Lib.hid hr2
  clear h1 h2 hr1 hr2
  by_cases hl : l1.length = l2.length
  · have hlz : (l1.length : Int) = (l2.length : Int) := by omega
    have hlb : ((l1.length : Int) != (l2.length : Int)) = false := by rw [hlz]; exact bne_self_eq_false _
    have HLL := Lib.hid hl
    clear hl hlz
    go_enter Tryz.func18, Tryz.ntmps18
    go_wp2_with fail
    go_loopw [5] (fun t5 wr => ∃ i : Nat, t5 = .int .i64 i ∧ i ≤ l1.length ∧ Hid (∀ a x y, a < i → l1[a]? = some x → l2[a]? = some y → x = y) ∧ ∃ nd, wr = w.drewN nd) (fun t5 _ => l1.length - (RowKit.intOf t5).toNat)
    case atStart => exact ⟨0, rfl, Nat.zero_le _, (fun a x y h => by omega), 0, rfl⟩
    case round =>
      obtain ⟨i, rfl, hi, HE, nd, rfl⟩ := hrel
      rcases Nat.lt_or_ge i l1.length with h | h
      · have hi2 : i < l2.length := by have := HLL.out; omega
        obtain ⟨b1, o1, rfl, _, hc1⟩ := HR1.out (List.ne_nil_of_length_pos (by omega))
        obtain ⟨b2, o2, rfl, _, hc2⟩ := HR2.out (List.ne_nil_of_length_pos (by omega))
        have k1 := hc1 i h
        have k2 := hc2 i hi2
        obtain ⟨w1, hw1⟩ : ∃ X, X = w.drewN nd := ⟨_, rfl⟩
        have d1 : w1.cell? ⟨b1, o1 + i, none⟩ = some (.int .i64 l1[i]) := by rw [hw1]; exact k1
        have d2 : w1.cell? ⟨b2, o2 + i, none⟩ = some (.int .i64 l2[i]) := by rw [hw1]; exact k2
        obtain ⟨x, hx⟩ : ∃ x, x = l1[i] := ⟨_, rfl⟩
        obtain ⟨y, hy⟩ : ∃ y, y = l2[i] := ⟨_, rfl⟩
        have hx1 : l1[i]? = some x := by rw [hx]; exact List.getElem?_eq_getElem h
        have hy1 : l2[i]? = some y := by rw [hy]; exact List.getElem?_eq_getElem hi2
        rw [← hx] at d1
        rw [← hy] at d2
        have HW1 := Lib.hid hw1
        have HX := Lib.hid hx1
        have HY := Lib.hid hy1
        rw [← hw1]
        have hiz : (i : Int) < (l1.length : Int) := by omega
        have hiz2 : (i : Int) < (l2.length : Int) := by omega
        clear hc1 hc2 k1 k2 hw1 hx hy hx1 hy1
        by_cases hxy : x = y
        · have hb : (x != y) = false := by rw [hxy]; exact bne_self_eq_false _
          have HXY := Lib.hid hxy
          have HE1 : Hid (∀ a x y, a < i + 1 → l1[a]? = some x → l2[a]? = some y → x = y) := fun a u v ha hu hv => by
            by_cases e : a = i
            · subst e
              rw [HX.out] at hu; rw [HY.out] at hv; cases hu; cases hv; exact HXY.out
            · exact HE.out a u v (by omega) hu hv
          clear hxy
          go_wp2_with fail
          go_region
          all_goals
            go_wp2_with fail
            go_roundw
            case rel => exact ⟨i + 1, by go_num, by omega, HE1, nd + 1, by rw [HW1.out]; rfl⟩
            case measure =>
              show l1.length - ((i : Int) + 1).toNat < l1.length - (i : Int).toNat
              omega
        · have hb : (x != y) = true := by simpa [bne_iff_ne] using hxy
          have HD : Hid (decide (l1 = l2) = false) := decide_eq_false fun e => by
            have := HX.out
            rw [e, HY.out] at this
            cases this; exact hxy rfl
          clear hxy
          go_wp2_with fail
          go_region
          all_goals
            go_wp2_with fail
            go_ret
            exact ⟨_, rfl, congrArg Value.bool HD.out.symm, nd + 1, by rw [HW1.out]; rfl⟩
      · have HD : Hid (decide (l1 = l2) = true) := decide_eq_true (List.ext_getElem HLL.out fun a ha1 ha2 => HE.out a _ _ (by omega) (List.getElem?_eq_getElem ha1) (List.getElem?_eq_getElem ha2))
        have hige : (l1.length : Int) ≤ (i : Int) := by omega
        go_wp2_with fail
        go_ret
        exact ⟨_, rfl, congrArg Value.bool HD.out.symm, nd, rfl⟩
  · have hlz : ((l1.length : Int) != (l2.length : Int)) = true := by rw [bne_iff_ne]; omega
    have HD : Hid (decide (l1 = l2) = false) := decide_eq_false fun e => hl (by rw [e])
    rw [HD.out]
    clear hl
    go_enter Tryz.func18, Tryz.ntmps18
    go_wp2_with fail
    go_ret
    exact ⟨_, rfl, rfl, dr_zero _⟩

/-! ### known -/
def kgP : List PtQ := gridP ((0 : Int) : Rat) ((0 : Int) : Rat) ((4 : Int) : Rat) ((2 : Int) : Rat) 2 1
def kgT : List Tri := gridT 2 1
theorem kg_mesh : MeshOK kgP kgT 7 :=
  grid_ok (k := 1) (by omega) (sz1 0 (by omega)) (sz1 0 (by omega)) (sz1 4 (by omega)) (sz1 2 (by omega)) (by decide +kernel) (by decide +kernel) 2 1 (by omega) (by omega) (by omega) (by omega)
theorem kg_len : kgP.length = 6 ∧ kgT.length = 4 := by decide +kernel
theorem kg_tri : kgT[3]? = some (1, 5, 4) ∧ kgT[0]? = some (0, 1, 4) := by decide +kernel
theorem kg_border : outerL (keysOf kgT) = [0, 1, 2, 5, 4, 3] := by decide +kernel
theorem kg_share : shareQ (ptI kgP 0) (ptI kgP 1) (ptI kgP 4) (((1 : Int) : Rat), ((1 : Int) : Rat)) 0 = 1 / 2 ∧ shareQ (ptI kgP 0) (ptI kgP 1) (ptI kgP 4) (((1 : Int) : Rat), ((1 : Int) : Rat)) 1 = 0 ∧ shareQ (ptI kgP 0) (ptI kgP 1) (ptI kgP 4) (((1 : Int) : Rat), ((1 : Int) : Rat)) 2 = 1 / 2 := by decide +kernel
theorem kg_along : alongL kgP kgT (((-1 : Int) : Rat), ((1 : Int) : Rat)) (((3 : Int) : Rat), ((1 : Int) : Rat)) = [(1, 1 / 4, 1 / 2), (0, 1 / 2, 3 / 4), (3, 3 / 4, 1)] := by decide +kernel
theorem RS_half : RS (1 / 2) = ⟨#[49, 47, 50]⟩ := by
  unfold RS RL
  rw [if_neg (by decide +kernel), show ((1 : Rat) / 2).num = 1 by decide +kernel, show ((1 : Rat) / 2).den = 2 by decide +kernel, itoa_one, dec_small 2 (by omega) (by omega)]
  rfl
theorem RS_quarter : RS (1 / 4) = ⟨#[49, 47, 52]⟩ := by
  unfold RS RL
  rw [if_neg (by decide +kernel), show ((1 : Rat) / 4).num = 1 by decide +kernel, show ((1 : Rat) / 4).den = 4 by decide +kernel, itoa_one, dec_small 4 (by omega) (by omega)]
  rfl

set_option maxHeartbeats 4000000 in
set_option maxRecDepth 100000 in
theorem known12_any (w : World) (hg : Good w) :
    Calls Tryz.prog 8 #[] w (Ret (fun r _ => r = .bool true) w) := by
  have HP1 : Hid (∀ w, Good w → _) := fun w hg => lpoint_any 0 0 (by omega) (by omega) w hg
  have HP2 : Hid (∀ w, Good w → _) := fun w hg => lpoint_any 4 2 (by omega) (by omega) w hg
  have HP3 : Hid (∀ w, Good w → _) := fun w hg => lpoint_any 1 1 (by omega) (by omega) w hg
  have HP4 : Hid (∀ w, Good w → _) := fun w hg => lpoint_any (-1) 1 (by omega) (by omega) w hg
  have HP5 : Hid (∀ w, Good w → _) := fun w hg => lpoint_any 3 1 (by omega) (by omega) w hg
  have HGR : Hid (∀ w, Good w → _) := fun w hg => grid_any ((0 : Int) : Rat) ((0 : Int) : Rat) ((4 : Int) : Rat) ((2 : Int) : Rat) 1 (by omega) (by omega) (sz1 0 (by omega)) (sz1 0 (by omega)) (sz1 4 (by omega)) (sz1 2 (by omega)) (by decide +kernel) (by decide +kernel) 2 1 (by omega) (by omega) (by omega) (by omega) w hg
  have HKP : Hid (gridP ((0 : Int) : Rat) ((0 : Int) : Rat) ((4 : Int) : Rat) ((2 : Int) : Rat) 2 1 = kgP ∧ gridT 2 1 = kgT) := ⟨rfl, rfl⟩
  go_enter Tryz.func8, Tryz.ntmps8
  go_wp2_with fail
  refine (HP1.out w hg).mono ?_
  rintro e w1 ⟨_, rfl, rfl, hb1⟩
  go_wp2_with fail
  refine (HP2.out w1 (hg.below hb1)).mono ?_
  rintro e w2 ⟨_, rfl, rfl, hb2⟩
  have hB2 := hb1.trans (hb2.mono hb1.size)
  clear hb1 hb2
  go_wp2_with fail
  refine (HGR.out w2 (hg.below hB2)).mono ?_
  rintro e w3 ⟨_, rfl, ⟨vp, vt, rfl, hp, ht⟩, hb3⟩
  have hB3 := hB2.trans (hb3.mono hB2.size)
  rw [HKP.out.1] at hp
  rw [HKP.out.2] at ht
  clear hb3 hB2
  have HPP := Lib.hid hp
  have HTT := Lib.hid ht
  obtain ⟨pp, cp, rfl, -, -, -⟩ := hp.open
  obtain ⟨pt, ct, rfl, -, -, htr⟩ := ht.open
  rw [strP_length, kg_len.1, kg_len.2] at *
  have HQ := Lib.hid htr
  clear hp ht htr
  go_wp2_with fail
  obtain ⟨W, hW⟩ : ∃ W, W = w3.alloc (.cells #[.slice pp 6 cp, .slice pt 4 ct] 30) := ⟨_, rfl⟩
  have hbW : Below w3.heap.size w3 W := by rw [hW]; exact (Below.refl _ _).alloc (Nat.le_refl _) _
  have bM : BoxN W w3.heap.size 30 [.slice pp 6 cp, .slice pt 4 ct] := by rw [hW]; exact BoxN.new _ _ _ _ rfl
  have hBW := hB3.trans (hbW.mono hB3.size)
  rw [← hW]
  clear hW hB3
  refine (boundary_ok W _ _ kgP kgT 7 (RdC.below HPP.out hbW) (RdC.below HTT.out hbW) kg_mesh (hg.below hBW)).mono ?_
  rintro e w4 ⟨_, rfl, ⟨vs, rfl, hrs, _⟩, hb4⟩
  rw [kg_border] at hrs
  have HRS := Lib.hid hrs
  obtain ⟨ps, cs, rfl, _, _, _⟩ := hrs.open
  have hB4 := hBW.trans (hb4.mono hBW.size)
  have bM4 := bM.below hb4 bM.lt
  have hb34 : Below w3.heap.size w3 w4 := hbW.trans (hb4.mono hbW.size)
  clear hrs hb4 hbW hBW bM
  have HSH : Hid (∀ w', Below w4.heap.size w4 w' → Good w' → Calls Tryz.prog 43 #[.agg #[.slice pp 6 cp, .slice pt 4 ct], .int .i64 0, .agg #[.string (RS ((1 : Int) : Rat)), .string (RS ((1 : Int) : Rat))]] w' (Ret (fun r _ => r = .tuple #[.agg #[.string ⟨#[49, 47, 50]⟩, .string ⟨#[48]⟩, .string ⟨#[49, 47, 50]⟩], .int .i64 0]) w')) := fun w' hb hg' => by
    have hb' := hb34.trans (hb.mono hb34.size)
    have := shares_ok w' _ _ kgP kgT 7 7 (RdC.below HPP.out hb') (RdC.below HTT.out hb') kg_mesh (by omega) (by omega) 0 (by rw [kg_len.2]; omega) (0, 1, 4) (by have := kg_tri.2; rw [List.getElem?_eq_some_iff] at this; exact this.2.symm) (((1 : Int) : Rat), ((1 : Int) : Rat)) ⟨(sz1 1 (by omega)).mono (by omega), (sz1 1 (by omega)).mono (by omega)⟩ hg'
    obtain ⟨e0, e1, e2⟩ := kg_share
    rw [e0, e1, e2, RS_half, RS_zero] at this
    exact this
  have HAL : Hid (∀ w', Below w4.heap.size w4 w' → Good w' → Calls Tryz.prog 44 #[.agg #[.slice pp 6 cp, .slice pt 4 ct], .agg #[.string (RS ((-1 : Int) : Rat)), .string (RS ((1 : Int) : Rat))], .agg #[.string (RS ((3 : Int) : Rat)), .string (RS ((1 : Int) : Rat))]] w' (Ret (fun r w'' => ∃ v, r = .tuple #[v, .int .i64 0] ∧ RdSp w'' v [(1, 1 / 4, 1 / 2), (0, 1 / 2, 3 / 4), (3, 3 / 4, 1)]) w')) := fun w' hb hg' => by
    have hb' := hb34.trans (hb.mono hb34.size)
    have zn : Sz 1 ((-1 : Int) : Rat) := ⟨by decide, by decide⟩
    have := along_ok w' _ _ kgP kgT 7 7 (RdC.below HPP.out hb') (RdC.below HTT.out hb') kg_mesh (by omega) (by omega) (by rw [kg_len.2]; omega) (((-1 : Int) : Rat), ((1 : Int) : Rat)) (((3 : Int) : Rat), ((1 : Int) : Rat)) ⟨zn.mono (by omega), (sz1 1 (by omega)).mono (by omega)⟩ ⟨(sz1 3 (by omega)).mono (by omega), (sz1 1 (by omega)).mono (by omega)⟩ (by decide +kernel) hg'
    rw [kg_along] at this
    exact this
  have HP3' : Hid (∀ w, Good w → Calls Tryz.prog 42 #[.int .i64 1, .int .i64 1] w (Ret (fun r _ => r = .agg #[.string (RS ((1 : Int) : Rat)), .string (RS ((1 : Int) : Rat))]) w)) := HP3.out
  have HP4' : Hid (∀ w, Good w → Calls Tryz.prog 42 #[.int .i64 (-1), .int .i64 1] w (Ret (fun r _ => r = .agg #[.string (RS ((-1 : Int) : Rat)), .string (RS ((1 : Int) : Rat))]) w)) := HP4.out
  have HP5' : Hid (∀ w, Good w → Calls Tryz.prog 42 #[.int .i64 3, .int .i64 1] w (Ret (fun r _ => r = .agg #[.string (RS ((3 : Int) : Rat)), .string (RS ((1 : Int) : Rat))]) w)) := HP5.out
  generalize RS ((1 : Int) : Rat) = s1 at *
  generalize RS ((3 : Int) : Rat) = s3 at *
  generalize RS ((-1 : Int) : Rat) = sn at *
  clear HP1 HP2 HP3 HP4 HP5 HGR HKP
  go_upto_region 3 with fail
  go_cut [5, 6] (fun s5 s6 wx => ∃ b5 : Nat, s5 = .pointer (some ⟨b5, 0, none⟩) ∧ s6 = .int .i64 0 ∧ BoxN wx b5 97 [.string ⟨#[49, 47, 50]⟩, .string ⟨#[48]⟩, .string ⟨#[49, 47, 50]⟩] ∧ Below w4.heap.size w4 wx)
  case first =>
    have hlM := bM4.lt
    have HF : Hid (∀ w', Below w4.heap.size w4 w' → w'.cell? ⟨w3.heap.size, 0, none⟩ = some (.slice pp 6 cp) ∧ w'.cell? ⟨w3.heap.size, 1, none⟩ = some (.slice pt 4 ct)) := fun w' hb => by
      have y1 := bM4.below hb hlM
      exact ⟨y1.cell 0 rfl, y1.cell 1 rfl⟩
    have HGD : Hid (∀ w', Below w4.heap.size w4 w' → Good w') := fun w' hb => (hg.below hB4).below hb
    have b0 : Below w4.heap.size w4 w4.drew := below_drewN w4 1
    have HZZ : Hid (∀ w' : World, BoxN (w'.alloc (.cells #[.string ⟨#[]⟩, .string ⟨#[]⟩, .string ⟨#[]⟩] 97)) w'.heap.size 97 [.string ⟨#[]⟩, .string ⟨#[]⟩, .string ⟨#[]⟩]) := fun w' => BoxN.new _ _ _ _ rfl
    have HAA : Hid (∀ (w' : World) (o : Obj), Below w4.heap.size w4 w' → Below w4.heap.size w4 (w'.alloc o)) := fun w' o hb => hb.alloc hb.size _
    have HSC : Hid (∀ (w' : World) (b i : Nat) (v : Value), w4.heap.size ≤ b → Below w4.heap.size w4 w' → Below w4.heap.size w4 (w'.setCell ⟨b, i, none⟩ v)) := fun w' b i v hb h => h.setCell (p := ⟨b, i, none⟩) hb v
    have HTR : Hid (∀ w' w'', Below w4.heap.size w4 w' → Below w'.heap.size w' w'' → Below w4.heap.size w4 w'') := fun w' w'' h1 h2 => h1.trans (h2.mono h1.size)
    have h0a := (HAA.out _ (.cells #[.string ⟨#[]⟩, .string ⟨#[]⟩, .string ⟨#[]⟩] 97) (Below.refl _ w4)).drew
    have g0 := HGD.out _ b0
    have g0a := HGD.out _ h0a
    clear bM4 hB4
    go_region_held3 (fun w' => w'.cell? ⟨w3.heap.size, 0, none⟩ = some (.slice pp 6 cp) ∧ w'.cell? ⟨w3.heap.size, 1, none⟩ = some (.slice pt 4 ct))
      ((refine HF.out _ ?_; first | with_reducible assumption | exact (HAA.out _ _ (by with_reducible assumption)).drew | exact HAA.out _ _ (by with_reducible assumption) | (iterate 3 (refine HSC.out _ _ _ _ (by omega) ?_)); with_reducible assumption))
      (first
        | (go_at_call 43; (first | (with_reducible refine (HSH.out _ h4 g4).mono ?_) | (with_reducible refine (HSH.out _ h4a g4a).mono ?_)); rintro e v5 ⟨_, rfl, rfl, hb5⟩
           have h5 : Below w4.heap.size w4 v5 := by first | exact HTR.out _ _ h4 hb5 | exact HTR.out _ _ h4a hb5
           have hs5 := h5.size
           try have bz5 := bz4.below hb5 bz4.lt
           try have bz5 := (HZZ.out v4).below hb5 (by simp)
           try have q0 := bz5.cell 0 rfl
           try have q1 := bz5.cell 1 rfl
           try have q2 := bz5.cell 2 rfl
           try have e0 := bz5.frozen 0
           try have e1 := bz5.frozen 1
           try have e2 := bz5.frozen 2)
        | (go_at_call 42; (first | (with_reducible refine (HP3'.out _ g0).mono ?_) | (with_reducible refine (HP3'.out _ g0a).mono ?_)); rintro e v4 ⟨_, rfl, rfl, hb4⟩
           have h4 : Below w4.heap.size w4 v4 := by first | exact HTR.out _ _ b0 hb4 | exact HTR.out _ _ h0a hb4
           have h4a := HAA.out _ (.cells #[.string ⟨#[]⟩, .string ⟨#[]⟩, .string ⟨#[]⟩] 97) h4
           have g4 := HGD.out _ h4
           have g4a := HGD.out _ h4a
           have hs4 := h4.size
           try have bz4 := (HZZ.out w4).drew.below hb4 (by simp)))
    · go_wp2_with fail
      go_meet
      exact ⟨_, rfl, rfl, BoxN.new _ _ _ _ rfl, HAA.out _ _ h5⟩
    · go_wp2_with fail
      go_meet
      exact ⟨_, rfl, rfl, ((bz5.set 0 _).set 1 _).set 2 _, HSC.out _ _ _ _ hs4 (HSC.out _ _ _ _ hs4 (HSC.out _ _ _ _ hs4 h5))⟩
    · go_wp2_with fail
      go_meet
      exact ⟨_, rfl, rfl, ((bz5.set 0 _).set 1 _).set 2 _, HSC.out _ _ _ _ (Nat.le_refl _) (HSC.out _ _ _ _ (Nat.le_refl _) (HSC.out _ _ _ _ (Nat.le_refl _) h5))⟩
  case rest =>
    obtain ⟨b5, rfl, rfl, x5, hbx⟩ := hcut
    have bMc := bM4.below hbx bM4.lt
    have hBc := hB4.trans (hbx.mono hB4.size)
    have hlM := bMc.lt
    have k0 := bMc.cell 0 rfl
    have k1 := bMc.cell 1 rfl
    have hgd : Good wc.drew := (hg.below hBc).drewN 1
    clear HSH HP3'
    go_upto_region 4 with fail
    go_region_held3 (fun w' => w'.cell? ⟨w3.heap.size, 0, none⟩ = some (.slice pp 6 cp) ∧ w'.cell? ⟨w3.heap.size, 1, none⟩ = some (.slice pt 4 ct))
      (first | exact ⟨k0, k1⟩ | exact ⟨p_1_0, p_1_1⟩ | exact ⟨p_2_0, p_2_1⟩ | exact ⟨p_3_0, p_3_1⟩)
      (first
      | (go_at_call 44; refine (HAL.out pw2 (hbx.trans (((below_drewN wc 1).trans (pb1.trans (pb2.mono pb1.size))).mono hbx.size)) pg2).mono ?_; rintro e pw3 ⟨_, rfl, ⟨vl, rfl, hal⟩, pb3⟩
         have p_3_0 := (pb3.cell (p := ⟨w3.heap.size, 0, none⟩) (by show w3.heap.size < pw2.heap.size; omega)).trans p_2_0
         have p_3_1 := (pb3.cell (p := ⟨w3.heap.size, 1, none⟩) (by show w3.heap.size < pw2.heap.size; omega)).trans p_2_1
         have ps3 : pw2.heap.size ≤ pw3.heap.size := pb3.size
         have pg3 : Good pw3 := pg2.below pb3)
      | (go_at_call 42; refine (HP5'.out _ pg1).mono ?_; rintro e pw2 ⟨_, rfl, rfl, pb2⟩
         have p_2_0 := (pb2.cell (p := ⟨w3.heap.size, 0, none⟩) (by show w3.heap.size < pw1.heap.size; omega)).trans p_1_0
         have p_2_1 := (pb2.cell (p := ⟨w3.heap.size, 1, none⟩) (by show w3.heap.size < pw1.heap.size; omega)).trans p_1_1
         have ps2 : pw1.heap.size ≤ pw2.heap.size := pb2.size
         have pg2 : Good pw2 := pg1.below pb2)
      | (go_at_call 42; refine (HP4'.out _ hgd).mono ?_; rintro e pw1 ⟨_, rfl, rfl, pb1⟩
         have p_1_0 := (pb1.cell (p := ⟨w3.heap.size, 0, none⟩) (by show w3.heap.size < wc.heap.size; omega)).trans k0
         have p_1_1 := (pb1.cell (p := ⟨w3.heap.size, 1, none⟩) (by show w3.heap.size < wc.heap.size; omega)).trans k1
         have ps1 : wc.heap.size ≤ pw1.heap.size := pb1.size
         have pg1 : Good pw1 := hgd.below pb1))
    have pB : Below wc.heap.size wc pw3 := ((((below_drewN wc 1).trans (pb1.mono (by show wc.heap.size ≤ wc.heap.size; omega))).trans (pb2.mono (by show wc.heap.size ≤ pw1.heap.size; omega))).trans (pb3.mono (by show wc.heap.size ≤ pw2.heap.size; omega)))
    obtain ⟨pl, cl, hvl, hlc⟩ := hal.cells
    subst hvl
    obtain ⟨bl, ol, rfl, hbl, hls⟩ := hlc (by simp)
    obtain ⟨l00, l01, l02⟩ := hls 0 _ rfl
    obtain ⟨l20, _, _⟩ := hls 2 _ rfl
    rw [RS_quarter] at l01
    rw [RS_half] at l02
    have hb3p : Below w3.heap.size w3 pw3 := hb34.trans ((hbx.trans (pB.mono hbx.size)).mono hb34.size)
    have hb4p : Below w4.heap.size w4 pw3 := hbx.trans (pB.mono hbx.size)
    have hBp := hBc.trans (pB.mono hBc.size)
    obtain ⟨bt, ot, rfl, hbt, htc⟩ := HQ.out (by intro e; have := kg_len.2; rw [e] at this; simp at this)
    have h3l : 3 < kgT.length := by rw [kg_len.2]; omega
    obtain ⟨q0, q1, q2⟩ := htc 3 h3l
    rw [show kgT[3] = ((1, 5, 4) : Tri) from (List.getElem?_eq_some_iff.1 kg_tri.1).2] at q0 q1 q2
    have t0 := (hb3p.cell (p := ⟨bt, ot + 3 * 3, none⟩) hbt).trans q0
    have t1 := (hb3p.cell (p := ⟨bt, ot + 3 * 3 + 1, none⟩) hbt).trans q1
    have t2 := (hb3p.cell (p := ⟨bt, ot + 3 * 3 + 2, none⟩) hbt).trans q2
    have bMp := bMc.below pB bMc.lt
    have x5p := x5.below pB x5.lt
    have m0 := bMp.cell 0 rfl
    have m1 := bMp.cell 1 rfl
    have v0 := x5p.cell 0 rfl
    have v1 := x5p.cell 1 rfl
    have v2 := x5p.cell 2 rfl
    have hl5 := x5p.lt
    have hlMp := bMp.lt
    have hrsp : RdI .i64 pw3 (.slice ps 6 cs) [0, 1, 2, 5, 4, 3] := RdC.below HRS.out hb4p
    have HSA : Hid (Calls Tryz.prog 18 #[.slice ps 6 cs, .slice (some ⟨pw3.heap.size, 0, none⟩) 6 6] (pw3.alloc (.cells #[.int .i64 0, .int .i64 1, .int .i64 2, .int .i64 5, .int .i64 4, .int .i64 3] 3)) (Drawn (fun r => r = .bool true) (pw3.alloc (.cells #[.int .i64 0, .int .i64 1, .int .i64 2, .int .i64 5, .int .i64 4, .int .i64 3] 3)))) := by
      have := same_any (pw3.alloc (.cells #[.int .i64 0, .int .i64 1, .int .i64 2, .int .i64 5, .int .i64 4, .int .i64 3] 3)) (.slice ps 6 cs) (.slice (some ⟨pw3.heap.size, 0, none⟩) 6 6) [0, 1, 2, 5, 4, 3] [0, 1, 2, 5, 4, 3] (RdC.alloc hrsp _) (RdC.fresh 1 _ _ _ 6 rfl (by omega) _ rfl _ rfl) (by decide) (by decide)
      rw [decide_eq_true rfl] at this
      exact this
    clear hls hlc htc q0 q1 q2 hal HAL HP4' HP5' k0 k1 bMc x5 hgd hrsp hb3p hb4p hbx pB x5p bMp
    have eqT : ∀ w : World, Sem.run Tryz.prog (Op.equalIn 10000 51 (.agg #[.int .i64 1, .int .i64 5, .int .i64 4]) (.agg #[.int .i64 1, .int .i64 5, .int .i64 4])) w = .ok true w := fun w => by kernel_rfl
    have eqW : ∀ w : World, Sem.run Tryz.prog (Op.equalIn 10000 97 (.agg #[.string ⟨#[49, 47, 50]⟩, .string ⟨#[48]⟩, .string ⟨#[49, 47, 50]⟩]) (.agg #[.string ⟨#[49, 47, 50]⟩, .string ⟨#[48]⟩, .string ⟨#[49, 47, 50]⟩])) w = .ok true w := fun w => by kernel_rfl
    have hz1 : bt < pw3.heap.size := World.block_lt_of_cell? pw3 _ t0
    go_wp2_with fail
    refine HSA.out.mono ?_
    rintro e w9 ⟨_, rfl, rfl, nd, rfl⟩
    obtain ⟨w9, hw9⟩ : ∃ X, X = (pw3.alloc (.cells #[.int .i64 0, .int .i64 1, .int .i64 2, .int .i64 5, .int .i64 4, .int .i64 3] 3)).drewN nd := ⟨_, rfl⟩
    have hb9 : Below pw3.heap.size pw3 w9 := by rw [hw9]; exact ((Below.refl _ _).alloc (Nat.le_refl _) _).trans ((below_drewN _ nd).mono (by simp))
    rw [← hw9]
    have hB9 := hBp.trans (hb9.mono hBp.size)
    have v0' := (hb9.cell (p := ⟨b5, 0, none⟩) hl5).trans v0
    have v1' := (hb9.cell (p := ⟨b5, 1, none⟩) hl5).trans v1
    have v2' := (hb9.cell (p := ⟨b5, 2, none⟩) hl5).trans v2
    have l00' := (hb9.cell (p := ⟨bl, ol + 0 * 3, none⟩) hbl).trans l00
    have l01' := (hb9.cell (p := ⟨bl, ol + 0 * 3 + 1, none⟩) hbl).trans l01
    have l02' := (hb9.cell (p := ⟨bl, ol + 0 * 3 + 2, none⟩) hbl).trans l02
    have l20' := (hb9.cell (p := ⟨bl, ol + 2 * 3, none⟩) hbl).trans l20
    simp only [Nat.zero_mul, Nat.add_zero] at l00' l01' l02'
    clear hw9 v0 v1 v2 l00 l01 l02 l20 t0 t1 t2 m0 m1 HSA
    go_wp2_with fail
    go_ret
    exact ⟨_, rfl, rfl, hB9⟩

end Go.Proofs.YtdhcliekejiegaaGreatDoor
