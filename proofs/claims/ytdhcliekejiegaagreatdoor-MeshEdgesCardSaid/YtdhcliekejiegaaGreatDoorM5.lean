/- The walk over slices.SortFunc at numbers, where there are at most twelve. -/
import Derived.Test.YtdhcliekejiegaaGreatDoorM4
import Derived.Test.YtdhcliekejiegaaGreatDoorShelfB
import Derived.BigRegion
import Derived.RegionTactic
namespace Go.Proofs.YtdhcliekejiegaaGreatDoor
open Go.RowKit Go.Lib

/-- The cells of a block hold these numbers, and none is frozen. -/
def RowQ (w : World) (g : Nat) (l : List Rat) : Prop := ∀ (a : Nat) (q : Rat), l[a]? = some q → w.cell? ⟨g, a, none⟩ = some (.string (RS q)) ∧ w.frozen? ⟨g, a, none⟩ = false
theorem RowQ.below {w w' : World} {g : Nat} {l : List Rat} (h : RowQ w g l) (hb : Below w.heap.size w w') (hg : g < w.heap.size) : RowQ w' g l := fun a q ha =>
  ⟨(hb.cell (p := ⟨g, a, none⟩) hg).trans (h a q ha).1, (hb.frozen (p := ⟨g, a, none⟩) hg).trans (h a q ha).2⟩
theorem RowQ.set {w : World} {g : Nat} {l : List Rat} (h : RowQ w g l) (i : Nat) (q : Rat) (hi : i < l.length) : RowQ (w.setCell ⟨g, i, none⟩ (.string (RS q))) g (l.set i q) := fun a r ha => by
  rw [World.frozen?_setCell]
  by_cases e : i = a
  · subst e
    rw [List.getElem?_set_self hi] at ha
    cases ha
    obtain ⟨h1, h2⟩ := h i _ (List.getElem?_eq_getElem hi)
    exact ⟨World.cell?_setCell_same _ _ _ h1, h2⟩
  · rw [List.getElem?_set_ne e] at ha
    obtain ⟨h1, h2⟩ := h a r ha
    exact ⟨(World.cell?_setCell_other _ _ _ _ (by intro e'; simp only [Addr.mk.injEq] at e'; omega)).trans h1, h2⟩
theorem RowQ.drew {w : World} {g : Nat} {l : List Rat} (h : RowQ w g l) : RowQ w.drew g l := h

theorem cmpQ_neg (p q : Rat) : cmpQ p q < 0 ↔ p < q := by
  unfold cmpQ
  split
  · rename_i h; exact ⟨fun _ => h, fun _ => by decide⟩
  · rename_i h
    refine ⟨fun h2 => ?_, fun h2 => absurd h2 h⟩
    split at h2 <;> omega

/-! ### plain: insertion -/
/-- The first i + 1 are in order but for the one at place j, which is not greater than those behind it. -/
def InsAt (l : List Rat) (i j : Nat) : Prop := ∀ (a b : Nat) (x y : Rat), a < b → b ≤ i → b ≠ j → l[a]? = some x → l[b]? = some y → x ≤ y
def SortTo (l : List Rat) (i : Nat) : Prop := ∀ (a b : Nat) (x y : Rat), a < b → b < i → l[a]? = some x → l[b]? = some y → x ≤ y
theorem InsAt.start {l : List Rat} {i : Nat} (h : SortTo l i) : InsAt l i i := fun a b x y hab hbi hbj ha hb => h a b x y hab (by omega) ha hb
theorem InsAt.done {l : List Rat} {i j : Nat} (h : InsAt l i j) (hs : ∀ jp x y, j = jp + 1 → l[jp]? = some x → l[j]? = some y → x ≤ y) (hji : j ≤ i) (hil : i < l.length) : SortTo l (i + 1) := by
  intro a b x y hab hbi ha hb
  by_cases e : b = j
  · subst e
    obtain ⟨jp, rfl⟩ : ∃ jp, b = jp + 1 := ⟨b - 1, by omega⟩
    obtain ⟨z, hz⟩ : ∃ z, l[jp]? = some z := ⟨_, List.getElem?_eq_getElem (by omega)⟩
    have h1 := hs jp z y rfl hz hb
    by_cases e2 : a = jp
    · subst e2; rw [ha] at hz; cases hz; exact h1
    · exact Rat.le_trans (h a jp x z (by omega) (by omega) (by omega) ha hz) h1
  · exact h a b x y hab (by omega) e ha hb
def swapL (l : List Rat) (j : Nat) (x y : Rat) : List Rat := (l.set (j + 1) x).set j y
theorem swapL_get (l : List Rat) (j : Nat) (x y : Rat) (hl : j + 1 < l.length) (a : Nat) : (swapL l j x y)[a]? = if a = j then some y else if a = j + 1 then some x else l[a]? := by
  unfold swapL
  by_cases e : a = j
  · subst e
    rw [if_pos rfl, List.getElem?_set_self (by rw [List.length_set]; omega)]
  · rw [if_neg e, List.getElem?_set_ne (fun h => e h.symm)]
    by_cases e2 : a = j + 1
    · subst e2; rw [if_pos rfl, List.getElem?_set_self hl]
    · rw [if_neg e2, List.getElem?_set_ne (fun h => e2 h.symm)]
theorem swapL_perm (l : List Rat) (j : Nat) (x y : Rat) (hx : l[j]? = some x) (hy : l[j + 1]? = some y) : (swapL l j x y).Perm l := by
  obtain ⟨h1, rfl⟩ := List.getElem?_eq_some_iff.1 hx
  obtain ⟨h2, rfl⟩ := List.getElem?_eq_some_iff.1 hy
  exact List.set_set_perm h2 h1
theorem InsAt.step {l : List Rat} {i j : Nat} {x y : Rat} (h : InsAt l i (j + 1)) (hx : l[j]? = some x) (hy : l[j + 1]? = some y) (hji : j + 1 ≤ i) (hlt : y < x) : InsAt (swapL l j x y) i j := by
  have hl : j + 1 < l.length := (List.getElem?_eq_some_iff.1 hy).1
  intro a b u v hab hbi hbj ha hb
  rw [swapL_get l j x y hl] at ha hb
  rw [if_neg hbj] at hb
  by_cases e1 : b = j + 1
  · subst e1
    rw [if_pos rfl] at hb
    cases hb
    by_cases e2 : a = j
    · subst e2; rw [if_pos rfl] at ha; cases ha; exact Rat.le_of_lt hlt
    · rw [if_neg e2, if_neg (by omega)] at ha
      exact h a j u x (by omega) (by omega) (by omega) ha hx
  · rw [if_neg e1] at hb
    by_cases e2 : a = j
    · subst e2; rw [if_pos rfl] at ha; cases ha
      exact h (a + 1) b _ v (by omega) hbi e1 hy hb
    · rw [if_neg e2] at ha
      by_cases e3 : a = j + 1
      · subst e3; rw [if_pos rfl] at ha; cases ha
        exact h j b _ v (by omega) hbi e1 hx hb
      · rw [if_neg e3] at ha
        exact h a b u v hab hbi e1 ha hb

set_option maxHeartbeats 4000000 in
set_option maxRecDepth 100000 in
theorem insertion_any (w0 w : World) (g cap : Nat) (l0 : List Rat) (hln : l0.length ≤ 12) (hsz : ∀ q ∈ l0, Sz 200 q) (hrow : RowQ w g l0) (hgl : g < w.heap.size) (hb0 : Below w0.heap.size w0 w) (h0g : w0.heap.size ≤ g) (hg : Good w0) :
    Calls Tryz.prog 204 #[.slice (some ⟨g, 0, none⟩) l0.length cap, .int .i64 0, .int .i64 (l0.length : Int), .func (.func 96) #[] #[]] w
      (fun e w' => e = .returned (.tuple #[]) ∧ ∃ l, l.Perm l0 ∧ SortTo l l.length ∧ RowQ w' g l ∧ w.grownBy w' (some g)) := by
  have HSZ := Lib.hid hsz
  have HCM : Hid (∀ p q : Rat, Sz 200 p → Sz 200 q → ∀ w, Good w → Calls Tryz.prog 96 #[.string (RS p), .string (RS q)] w (Ret (fun v _ => v = .int .i64 (cmpQ p q)) w)) := fun p q hp hq w hg => ratCompare_any p q 200 (by omega) (by omega) hp hq w hg
  obtain ⟨n, hn⟩ : ∃ n, n = l0.length := ⟨_, rfl⟩
  rw [← hn] at hln ⊢
  have HN := Lib.hid hn
  have HROW := Lib.hid hrow
  clear hsz hn hrow
  go_enter Tryz.func204, Tryz.ntmps204
  go_wp2_with fail
  go_loopw [8] (fun t8 wr => ∃ (i : Nat) (l : List Rat), t8 = .int .i64 i ∧ 1 ≤ i ∧ (i ≤ n ∨ i = 1) ∧ Hid (l.Perm l0) ∧ Hid (SortTo l i) ∧ Hid (RowQ wr g l) ∧ w.grownBy wr (some g)) (fun t8 _ => n - (RowKit.intOf t8).toNat)
  case atStart => exact ⟨1, l0, rfl, by omega, .inr rfl, List.Perm.refl _, (fun a b x y h1 h2 => by omega), HROW.out, gb_refl _ _⟩
  case round =>
    obtain ⟨i, l, rfl, hi1, hin, HP, HS, HR, hgb⟩ := hrel
    clear HROW
    rcases Nat.lt_or_ge i n with h | h
    · have hiz : (i : Int) < (n : Int) := by omega
      obtain ⟨wo, hwo⟩ : ∃ wo : World, wo = wr := ⟨_, rfl⟩
      subst hwo
      go_wp2_with fail
      go_loopw [9] (fun t9 wr => ∃ (j : Nat) (l : List Rat), t9 = .int .i64 j ∧ j ≤ i ∧ Hid (l.Perm l0) ∧ Hid (InsAt l i j) ∧ Hid (RowQ wr g l) ∧ w.grownBy wr (some g)) (fun t9 _ => (RowKit.intOf t9).toNat)
      case atStart => exact ⟨i, l, rfl, Nat.le_refl _, HP, InsAt.start HS.out, HR.out, hgb⟩
      case round =>
        clear HP HS HR hgb
        obtain ⟨j, l, rfl, hji, HP, HI, HR, hgb⟩ := hrel
        have HLN : Hid (l.length = n) := by unfold Hid; rw [HP.out.length_eq, HN.out]
        have hbr : Below w0.heap.size w0 wr := below_gb hb0 hgb h0g
        have hgr := hg.below hbr
        have hgd : Good wr.drew := hgr.drewN 1
        have hgl2 : g < wr.heap.size := Nat.lt_of_lt_of_le hgl hgb.size
        rcases j with _ | jp
        · rw [show ((0 : Nat) : Int) = 0 from rfl]
          have HDN : Hid (SortTo l (i + 1)) := HI.out.done (fun jq u v e => by omega) hji (by rw [HLN.out]; exact h)
          clear hgd hgr hbr
          go_upto_region 4 with fail
          go_region
          go_wp2_with fail
          go_roundw
          case rel => exact ⟨i + 1, l, by go_num, by omega, .inl (by omega), HP, HDN, HR.out, gb_below hgb (below_drewN _ 1)⟩
          case measure => simp [RowKit.intOf]; omega
        · rw [show ((jp + 1 : Nat) : Int) = (jp : Int) + 1 from rfl]
          have hj1 : jp + 1 < l.length := by rw [HLN.out]; omega
          obtain ⟨x, hx⟩ : ∃ x, l[jp]? = some x := ⟨_, List.getElem?_eq_getElem (by omega)⟩
          obtain ⟨y, hy⟩ : ∃ y, l[jp + 1]? = some y := ⟨_, List.getElem?_eq_getElem hj1⟩
          have zx : Sz 200 x := HSZ.out x (HP.out.mem_iff.1 (List.mem_of_getElem? hx))
          have zy : Sz 200 y := HSZ.out y (HP.out.mem_iff.1 (List.mem_of_getElem? hy))
          have HC : Hid (∀ w, Good w → _) := fun w hg => HCM.out y x zy zx w hg
          obtain ⟨c0, f0⟩ := HR.out jp x hx
          obtain ⟨c1, f1⟩ := HR.out (jp + 1) y hy
          have HX := Lib.hid hx
          have HY := Lib.hid hy
          have hjz1 : (jp : Int) + 1 < (n : Int) := by omega
          have hjz2 : (jp : Int) < (n : Int) := by omega
          have hjz3 : (0 : Int) < (jp : Int) + 1 := by omega
          have hw1 : IntKind.i64.wrap ((jp : Int) + 1) = (jp : Int) + 1 := IntWalk.i64_in _ (by omega)
          have hw2 : IntKind.i64.wrap ((jp : Int) + 1 - 1) = (jp : Int) := by rw [show (jp : Int) + 1 - 1 = (jp : Int) by omega]; exact IntWalk.i64_in _ (by omega)
          have hw3 : IntKind.i64.wrap (jp : Int) = (jp : Int) := IntWalk.i64_in _ (by omega)
          have hw4 : (0 : Int) ≤ (jp : Int) + 1 := by omega
          have hw5 : ((jp : Int) + 1).toNat = jp + 1 := by omega
          have hdec : decide ((0 : Int) < (jp : Int) + 1) = true := decide_eq_true hjz3
          clear hx hy hj1 zx zy
          go_upto_region 4 with fail
          go_region_held3 (fun w' => w'.cell? ⟨g, jp + 1, none⟩ = some (.string (RS y)) ∧ w'.cell? ⟨g, jp, none⟩ = some (.string (RS x)))
            (first | exact ⟨c1, c0⟩ | exact ⟨p_1_0, p_1_1⟩)
            (first
            | (go_at_call 96; refine (HC.out _ hgd).mono ?_; rintro e pw1 ⟨_, rfl, rfl, pb1⟩
               have p_1_0 := (pb1.cell (p := ⟨g, jp + 1, none⟩) (by show g < wr.heap.size; omega)).trans c1
               have p_1_1 := (pb1.cell (p := ⟨g, jp, none⟩) (by show g < wr.heap.size; omega)).trans c0
               have ps1 : wr.heap.size ≤ pw1.heap.size := pb1.size
               have pg1 : Good pw1 := hgd.below pb1))
          have pB : Below wr.heap.size wr pw1 := ((below_drewN wr 1).trans (pb1.mono (by show wr.heap.size ≤ wr.heap.size; omega)))
          clear hw1 hw2 hw3 hw5 hdec
          have hgb1 := gb_below hgb pB
          have HR1 : Hid (RowQ pw1 g l) := RowQ.below HR.out pB hgl2
          have hbr1 : Below w0.heap.size w0 pw1 := below_gb hb0 hgb1 h0g
          have HCZ : Hid (cmpQ y x < 0 ↔ y < x) := cmpQ_neg y x
          have hgl3 : g < pw1.heap.size := Nat.lt_of_lt_of_le hgl hgb1.size
          generalize cmpQ y x = z at *
          clear hgb HR c0 c1 f0 f1 hgd pg1 pB hbr hgr
          obtain ⟨c0, f0⟩ := HR1.out jp x HX.out
          obtain ⟨c1, f1⟩ := HR1.out (jp + 1) y HY.out
          by_cases hz : z < 0
          · have hlt := HCZ.out.1 hz
            have HLT := Lib.hid hlt
            have HL1 : Hid (jp + 1 < l.length) := by unfold Hid; rw [HLN.out]; omega
            have hIS : InsAt (swapL l jp x y) i jp := InsAt.step HI.out HX.out HY.out hji hlt
            have HIS := Lib.hid hIS
            have HPS : Hid ((swapL l jp x y).Perm l0) := (swapL_perm l jp x y HX.out HY.out).trans HP.out
            have hw1 : IntKind.i64.wrap ((jp : Int) + 1) = (jp : Int) + 1 := IntWalk.i64_in _ (by omega)
            have hw2 : IntKind.i64.wrap ((jp : Int) + 1 - 1) = (jp : Int) := by rw [show (jp : Int) + 1 - 1 = (jp : Int) by omega]; exact IntWalk.i64_in _ (by omega)
            have hw3 : IntKind.i64.wrap (jp : Int) = (jp : Int) := IntWalk.i64_in _ (by omega)
            have hw5 : ((jp : Int) + 1).toNat = jp + 1 := by omega
            have hne1 : jp ≠ jp + 1 := by omega
            have hne2 : jp + 1 ≠ jp := by omega
            clear hIS hlt
            go_upto_region 6 with fail
            go_region
            have HR2 : Hid (RowQ ((pw1.setCell ⟨g, jp + 1, none⟩ (.string (RS x))).setCell ⟨g, jp, none⟩ (.string (RS y))).drew g (swapL l jp x y)) := by
              unfold Hid swapL
              exact ((HR1.out.set (jp + 1) x HL1.out).set jp y (by rw [List.length_set]; have := HL1.out; omega)).drew
            have hgb2 : w.grownBy ((pw1.setCell ⟨g, jp + 1, none⟩ (.string (RS x))).setCell ⟨g, jp, none⟩ (.string (RS y))).drew (some g) :=
              gb_below (gb_set (gb_set hgb1 (jp + 1) _) jp _) (below_drewN _ 1)
            clear hw1 hw2 hw3 hw5
            go_wp2_with fail
            go_roundw
            case rel => exact ⟨jp, _, by go_num, by omega, HPS, HIS, HR2, hgb2⟩
            case measure => simp [RowKit.intOf] <;> omega
          · have hnl : ¬ y < x := fun h => hz (HCZ.out.2 h)
            have HDN : Hid (SortTo l (i + 1)) := HI.out.done (fun jq u v e hu hv => by
              obtain rfl : jp = jq := by omega
              rw [HX.out] at hu; rw [HY.out] at hv; cases hu; cases hv
              exact Rat.not_lt.1 hnl) hji (by rw [HLN.out]; exact h)
            clear hnl c0 f0 c1 f1
            go_wp2_with fail
            go_roundw
            case rel => exact ⟨i + 1, l, by go_num, by omega, .inl (by omega), HP, HDN, HR1, hgb1⟩
            case measure => simp [RowKit.intOf]; omega
    · have hge : (n : Int) ≤ (i : Int) := by omega
      have HLN : Hid (l.length = n) := by unfold Hid; rw [HP.out.length_eq, HN.out]
      have HS2 : Hid (SortTo l l.length) := fun a b x y h1 h2 hx hy => HS.out a b x y h1 (by have := HLN.out; omega) hx hy
      go_wp2_with fail
      go_end0
      exact ⟨rfl, l, HP.out, HS2.out, HR.out, hgb⟩

set_option maxHeartbeats 1000000 in
set_option maxRecDepth 100000 in
theorem pdq_any (w0 w : World) (g cap : Nat) (l0 : List Rat) (hln : l0.length ≤ 12) (hsz : ∀ q ∈ l0, Sz 200 q) (hrow : RowQ w g l0) (hgl : g < w.heap.size) (hb0 : Below w0.heap.size w0 w) (h0g : w0.heap.size ≤ g) (hg : Good w0) (lim : Int) :
    Calls Tryz.prog 166 #[.slice (some ⟨g, 0, none⟩) l0.length cap, .int .i64 0, .int .i64 (l0.length : Int), .int .i64 lim, .func (.func 96) #[] #[]] w
      (fun e w' => e = .returned (.tuple #[]) ∧ ∃ l, l.Perm l0 ∧ SortTo l l.length ∧ RowQ w' g l ∧ w.grownBy w' (some g)) := by
  have HI := Lib.hid (insertion_any w0 w g cap l0 hln hsz hrow hgl hb0 h0g hg)
  have hnz : (l0.length : Int) ≤ 12 := by omega
  have hnz0 : (0 : Int) ≤ (l0.length : Int) := by omega
  generalize l0.length = n at *
  clear hsz hrow hgl hb0 h0g hg
  go_enter Tryz.func166, Tryz.ntmps166
  go_wp2_with fail
  refine wp_loop_rounds 1 ?_
  rw [rounds_succ]
  go_wp2_with fail
  refine HI.out.mono ?_
  rintro e w' ⟨rfl, l, h1, h2, h3, h4⟩
  go_wp2_with fail
  exact bodyPost_ret (v := .tuple #[]) (by simp [results, Tryz.results166, go_sem]) rfl ⟨rfl, l, h1, h2, h3, h4⟩

set_option maxHeartbeats 1000000 in
set_option maxRecDepth 100000 in
/-- slices.SortFunc at at most twelve numbers. -/
theorem sortRat_any (w0 w : World) (g cap : Nat) (l0 : List Rat) (hln : l0.length ≤ 12) (hsz : ∀ q ∈ l0, Sz 200 q) (hrow : RowQ w g l0) (hgl : g < w.heap.size) (hb0 : Below w0.heap.size w0 w) (h0g : w0.heap.size ≤ g) (hg : Good w0) :
    Calls Tryz.prog 106 #[.slice (some ⟨g, 0, none⟩) l0.length cap, .func (.func 96) #[] #[]] w
      (fun e w' => e = .returned (.tuple #[]) ∧ ∃ l, l.Perm l0 ∧ SortTo l l.length ∧ RowQ w' g l ∧ w.grownBy w' (some g)) := by
  have HI : Hid (∀ lim : Int, _) := fun lim => pdq_any w0 w g cap l0 hln hsz hrow hgl hb0 h0g hg lim
  have hl : Calls Tryz.prog 119 #[.int .u64 (l0.length : Int)] w fun e w' => e = .returned (.int .i64 (Lib.bitLen l0.length : Nat)) ∧ w' = w := by
    have h := Any.bits_Len (SlLaysF0.n15.bits (P := Tryz.prog) (ρ := Tryz.sortRat_ren) { Tryz.sortRat with }) (l0.length : Int) w (by omega) (by omega)
    rwa [Int.toNat_natCast] at h
  have wr : IntKind.u64.wrap (l0.length : Int) = l0.length := by simp [IntKind.wrap, IntKind.bits, IntKind.signed]; omega
  have hnz : (l0.length : Int) ≤ 12 := by omega
  generalize Lib.bitLen l0.length = lim at *
  generalize l0.length = n at *
  clear hsz hrow hgl hb0 h0g hg
  go_enter Tryz.func106, Tryz.ntmps106
  go_wp2_with fail
  refine hl.mono ?_
  rintro e w1 ⟨rfl, hw1⟩
  rw [hw1]
  clear hw1
  go_wp2_with fail
  refine (HI.out _).mono ?_
  rintro e w' ⟨rfl, l, h1, h2, h3, h4⟩
  go_wp2_with fail
  go_end0
  exact ⟨rfl, l, h1, h2, h3, h4⟩

end Go.Proofs.YtdhcliekejiegaaGreatDoor
