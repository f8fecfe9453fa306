/- The walk over slices.SortFunc at pairs, by slices.Compare, where there are at most twelve. -/
import Derived.Test.YtdhcliekejiegaaGreatDoorM12
import Derived.Laws.StructEq
import Derived.Test.YtdhcliekejiegaaGreatDoorM5
import Derived.BigRegion
import Derived.RegionTactic
namespace Go.Proofs.YtdhcliekejiegaaGreatDoor
open Go.RowKit Go.Lib

/-- The order of pairs, as numbers. -/
def keyQ (s : Edge) : Rat := ((s.1 * 1000 + s.2 : Int) : Rat)
def SmE (s : Edge) : Prop := (0 ≤ s.1 ∧ s.1 < 1000) ∧ (0 ≤ s.2 ∧ s.2 < 1000)
def cmpE (x y : Edge) : Int := if x.1 < y.1 then -1 else if y.1 < x.1 then 1 else if x.2 < y.2 then -1 else if y.2 < x.2 then 1 else 0
theorem cmpE_neg (x y : Edge) (hx : SmE x) (hy : SmE y) : cmpE x y < 0 ↔ keyQ x < keyQ y := by
  obtain ⟨⟨a1, a2⟩, a3, a4⟩ := hx
  obtain ⟨⟨b1, b2⟩, b3, b4⟩ := hy
  unfold keyQ cmpE
  rw [Rat.intCast_lt_intCast]
  repeat' split
  all_goals omega
theorem keyQ_inj (x y : Edge) (hx : SmE x) (hy : SmE y) (h : keyQ x = keyQ y) : x = y := by
  obtain ⟨⟨a1, a2⟩, a3, a4⟩ := hx
  obtain ⟨⟨b1, b2⟩, b3, b4⟩ := hy
  unfold keyQ at h
  have h2 := Rat.intCast_inj.1 h
  exact Prod.ext (by omega) (by omega)

/-- The cells of a block hold these pairs, and none is frozen. -/
def RowE (w : World) (g : Nat) (l : List Edge) : Prop := ∀ (a : Nat) (s : Edge), l[a]? = some s → (w.cell? ⟨g, a * 2, none⟩ = some (.int .i64 s.1) ∧ w.frozen? ⟨g, a * 2, none⟩ = false) ∧ (w.cell? ⟨g, a * 2 + 1, none⟩ = some (.int .i64 s.2) ∧ w.frozen? ⟨g, a * 2 + 1, none⟩ = false)
theorem RowE.below {w w' : World} {g : Nat} {l : List Edge} (h : RowE w g l) (hb : Below w.heap.size w w') (hg : g < w.heap.size) : RowE w' g l := fun a s ha => by
  obtain ⟨⟨h1, h2⟩, h3, h4⟩ := h a s ha
  exact ⟨⟨(hb.cell (p := ⟨g, a * 2, none⟩) hg).trans h1, (hb.frozen (p := ⟨g, a * 2, none⟩) hg).trans h2⟩, (hb.cell (p := ⟨g, a * 2 + 1, none⟩) hg).trans h3, (hb.frozen (p := ⟨g, a * 2 + 1, none⟩) hg).trans h4⟩
theorem RowE.drew {w : World} {g : Nat} {l : List Edge} (h : RowE w g l) : RowE w.drew g l := h
theorem RowE.set {w : World} {g : Nat} {l : List Edge} (h : RowE w g l) (i : Nat) (s : Edge) (hi : i < l.length) : RowE ((w.setCell ⟨g, i * 2, none⟩ (.int .i64 s.1)).setCell ⟨g, i * 2 + 1, none⟩ (.int .i64 s.2)) g (l.set i s) := fun a r ha => by
  have ne : ∀ x y : Nat, x ≠ y → (⟨g, x, none⟩ : Addr) ≠ ⟨g, y, none⟩ := fun x y hxy e => hxy (by injection e)
  simp only [World.frozen?_setCell]
  by_cases e : i = a
  · subst e
    rw [List.getElem?_set_self hi] at ha
    cases ha
    obtain ⟨⟨h1, h2⟩, h3, h4⟩ := h i _ (List.getElem?_eq_getElem hi)
    exact ⟨⟨(World.cell?_setCell_other _ _ _ _ (ne _ _ (by omega))).trans (World.cell?_setCell_same _ _ _ h1), h2⟩,
      World.cell?_setCell_same _ _ _ ((World.cell?_setCell_other _ _ _ _ (ne _ _ (by omega))).trans h3), h4⟩
  · rw [List.getElem?_set_ne e] at ha
    obtain ⟨⟨h1, h2⟩, h3, h4⟩ := h a r ha
    exact ⟨⟨(World.cell?_setCell_other _ _ _ _ (ne _ _ (by omega))).trans ((World.cell?_setCell_other _ _ _ _ (ne _ _ (by omega))).trans h1), h2⟩,
      (World.cell?_setCell_other _ _ _ _ (ne _ _ (by omega))).trans ((World.cell?_setCell_other _ _ _ _ (ne _ _ (by omega))).trans h3), h4⟩

/-! ### plain: insertion, by the keys -/
def swapE (l : List Edge) (j : Nat) (x y : Edge) : List Edge := (l.set (j + 1) x).set j y
theorem swapE_key (l : List Edge) (j : Nat) (x y : Edge) : (swapE l j x y).map keyQ = swapL (l.map keyQ) j (keyQ x) (keyQ y) := by
  unfold swapE swapL; rw [List.map_set, List.map_set]
theorem swapE_perm (l : List Edge) (j : Nat) (x y : Edge) (hx : l[j]? = some x) (hy : l[j + 1]? = some y) : (swapE l j x y).Perm l := by
  obtain ⟨h1, rfl⟩ := List.getElem?_eq_some_iff.1 hx
  obtain ⟨h2, rfl⟩ := List.getElem?_eq_some_iff.1 hy
  exact List.set_set_perm h2 h1
theorem map_get {l : List Edge} {j : Nat} {x : Edge} (h : l[j]? = some x) : (l.map keyQ)[j]? = some (keyQ x) := by rw [List.getElem?_map, h]; rfl

/-! ### comparing -/
theorem isNaN_int (x : Int) (w : World) : Calls Tryz.prog 189 #[.int .i64 x] w (Ret (fun r _ => r = .bool false) w) := by
  have hx : (x != x) = false := bne_self_eq_false _
  go_enter Tryz.func189, Tryz.ntmps189
  go_wp2_with fail
  go_ret
  exact ⟨_, rfl, rfl, Below.refl _ _⟩
theorem cmpInt_any (x y z : Int) (hz : z = if x < y then -1 else if y < x then 1 else 0) (w : World) : Calls Tryz.prog 120 #[.int .i64 x, .int .i64 y] w (Ret (fun r _ => r = .int .i64 z) w) := by
  have HN := Lib.hid isNaN_int
  have HZ := Lib.hid hz
  clear hz
  go_enter Tryz.func120, Tryz.ntmps120
  go_wp2_with fail
  refine (HN.out _ _).mono ?_
  rintro e w1 ⟨_, rfl, rfl, hb1⟩
  go_wp2_with fail
  refine (HN.out _ _).mono ?_
  rintro e w2 ⟨_, rfl, rfl, hb2⟩
  have hB := hb1.trans (hb2.mono hb1.size)
  by_cases h1 : x < y
  · have hd : decide (x < y) = true := decide_eq_true h1
    rw [if_pos h1] at HZ
    clear h1
    go_wp2_with fail
    go_ret
    exact ⟨_, rfl, (by rw [HZ.out]; rfl), hB⟩
  · have hd : decide (x < y) = false := decide_eq_false h1
    rw [if_neg h1] at HZ
    clear h1
    by_cases h2 : y < x
    · have hd2 : decide (y < x) = true := decide_eq_true h2
      rw [if_pos h2] at HZ
      clear h2
      go_wp2_with fail
      go_ret
      exact ⟨_, rfl, (by rw [HZ.out]; rfl), hB⟩
    · have hd2 : decide (y < x) = false := decide_eq_false h2
      rw [if_neg h2] at HZ
      clear h2
      go_wp2_with fail
      go_ret
      exact ⟨_, rfl, (by rw [HZ.out]; rfl), hB⟩

set_option maxHeartbeats 1000000 in
set_option maxRecDepth 100000 in
theorem slCompare_any (w : World) (b1 b2 : Nat) (x y : Edge) (hl1 : b1 < w.heap.size) (hl2 : b2 < w.heap.size) (h0 : w.cell? ⟨b1, 0, none⟩ = some (.int .i64 x.1)) (h1 : w.cell? ⟨b1, 1, none⟩ = some (.int .i64 x.2)) (h2 : w.cell? ⟨b2, 0, none⟩ = some (.int .i64 y.1)) (h3 : w.cell? ⟨b2, 1, none⟩ = some (.int .i64 y.2)) :
    Calls Tryz.prog 55 #[.slice (some ⟨b1, 0, none⟩) 2 2, .slice (some ⟨b2, 0, none⟩) 2 2] w (Ret (fun r _ => r = .int .i64 (cmpE x y)) w) := by
  obtain ⟨x0, x1⟩ := x
  obtain ⟨y0, y1⟩ := y
  dsimp only at h0 h1 h2 h3
  obtain ⟨c0, hc0⟩ : ∃ z : Int, z = if x0 < y0 then -1 else if y0 < x0 then 1 else 0 := ⟨_, rfl⟩
  obtain ⟨c1, hc1⟩ : ∃ z : Int, z = if x1 < y1 then -1 else if y1 < x1 then 1 else 0 := ⟨_, rfl⟩
  have HE0 : Hid (c0 ≠ 0 → cmpE (x0, x1) (y0, y1) = c0) := fun hne => by
    rw [hc0] at hne ⊢
    unfold cmpE
    dsimp only
    split
    · rfl
    · split
      · rfl
      · rename_i h1 h2
        rw [if_neg h1, if_neg h2] at hne
        exact absurd rfl hne
  have HE1 : Hid (c0 = 0 → cmpE (x0, x1) (y0, y1) = c1) := fun hz => by
    rw [hc1]
    rw [hc0] at hz
    unfold cmpE
    dsimp only
    split
    · rename_i h1; rw [if_pos h1] at hz; exact absurd hz (by decide)
    · rename_i h1
      split
      · rename_i h2; rw [if_neg h1, if_pos h2] at hz; exact absurd hz (by decide)
      · rfl
  have HC0 : Hid (∀ w, _) := fun w => cmpInt_any x0 y0 c0 hc0 w
  have HC1 : Hid (∀ w, _) := fun w => cmpInt_any x1 y1 c1 hc1 w
  generalize cmpE (x0, x1) (y0, y1) = r at *
  clear hc0 hc1
  go_enter Tryz.func55, Tryz.ntmps55
  go_wp2_with fail
  refine wp_loop_rounds 3 ?_
  rw [rounds_succ]
  go_wp2_with fail
  refine (HC0.out w).mono ?_
  rintro e w1 ⟨_, rfl, rfl, hb1⟩
  have d1 := (hb1.cell (p := ⟨b1, 1, none⟩) hl1).trans h1
  have d3 := (hb1.cell (p := ⟨b2, 1, none⟩) hl2).trans h3
  clear h0 h1 h2 h3
  by_cases hc : c0 = 0
  · have hb : (c0 != 0) = false := by simp [hc]
    have HX := Lib.hid (HE1.out hc)
    clear hc
    go_wp2_with fail
    rw [rounds_succ]
    go_wp2_with fail
    refine (HC1.out w1).mono ?_
    rintro e w2 ⟨_, rfl, rfl, hb2⟩
    have hB := hb1.trans (hb2.mono hb1.size)
    by_cases hc1 : c1 = 0
    · have hbb : (c1 != 0) = false := by simp [hc1]
      rw [hc1] at HX
      clear hc1
      go_wp2_with fail
      rw [rounds_succ]
      go_wp2_with fail
      go_ret
      exact ⟨_, rfl, (by rw [HX.out]; rfl), hB⟩
    · have hbb : (c1 != 0) = true := by simp [hc1]
      clear hc1
      go_wp2_with fail
      go_ret
      exact ⟨_, rfl, (by rw [HX.out]; rfl), hB⟩
  · have hb : (c0 != 0) = true := by simp [hc]
    have HX := Lib.hid (HE0.out hc)
    clear hc
    go_wp2_with fail
    go_ret
    exact ⟨_, rfl, (by rw [HX.out]; rfl), hb1⟩

set_option maxRecDepth 100000 in
theorem edges1_any (x y : Edge) (w : World) : Calls Tryz.prog 54 #[.agg #[.int .i64 x.1, .int .i64 x.2], .agg #[.int .i64 y.1, .int .i64 y.2]] w (Ret (fun r _ => r = .int .i64 (cmpE x y)) w) := by
  go_enter Tryz.func54, Tryz.ntmps54
  go_wp2_with fail
  obtain ⟨W, hW⟩ : ∃ W, W = (w.alloc (.cells #[.int .i64 x.1, .int .i64 x.2] 47)).alloc (.cells #[.int .i64 y.1, .int .i64 y.2] 47) := ⟨_, rfl⟩
  have hB : Below w.heap.size w W := by rw [hW]; exact ((Below.refl _ _).alloc (Nat.le_refl _) _).alloc (by simp) _
  have b3 : BoxN W (w.heap.size + 1) 47 [.int .i64 y.1, .int .i64 y.2] := by rw [hW]; exact BoxN.new _ _ _ _ (by simp)
  have b2 : BoxN W w.heap.size 47 [.int .i64 x.1, .int .i64 x.2] := by
    rw [hW]
    have h1 := (BoxN.new w #[.int .i64 x.1, .int .i64 x.2] 47 _ rfl)
    exact h1.below ((Below.refl _ _).alloc (Nat.le_refl _) _) h1.lt
  rw [← hW]
  clear hW
  have HCM : Hid (∀ w', Below W.heap.size W w' → Calls Tryz.prog 55 #[.slice (some ⟨w.heap.size, 0, none⟩) 2 2, .slice (some ⟨w.heap.size + 1, 0, none⟩) 2 2] w' (Ret (fun r _ => r = .int .i64 (cmpE x y)) w')) := fun w' hb => by
    have c2 := b2.below hb b2.lt
    have c3 := b3.below hb b3.lt
    exact slCompare_any w' _ _ x y c2.lt c3.lt (c2.cell 0 rfl) (c2.cell 1 rfl) (c3.cell 0 rfl) (c3.cell 1 rfl)
  have q0 : Below W.heap.size W W.drew := below_drewN W 1
  refine wp_region_held_drew (S := (fun w' => True)) (by kernel_rfl) ?_ (fun hHeld => ?_)
  · trivial
  refine wpAnyH_take (i := 0) (oi := _) (v := ?_) rfl (by kernel_rfl) (by kernel_rfl) (by kernel_rfl) (fun _ _ _ h => h) (Or.inl ⟨by rfl, ?_⟩) (by assumption) ?_
  rotate_left
  · intro w hSw; (try dsimp only at hSw); first | (go_simp; done) | (go_simp; with_reducible rfl)
  try simp only [Act.put, List.getElem_toArray, List.getElem_cons_zero, List.setIfInBounds_toArray, List.set_cons_zero, List.set_cons_succ]
  refine wpAnyH_take (i := 1) (oi := _) (v := ?_) rfl (by kernel_rfl) (by kernel_rfl) (by kernel_rfl) (fun _ _ _ h => h) (Or.inl ⟨by rfl, ?_⟩) (by assumption) ?_
  rotate_left
  · intro w hSw; (try dsimp only at hSw); first | (go_simp; done) | (go_simp; with_reducible rfl)
  try simp only [Act.put, List.getElem_toArray, List.getElem_cons_zero, List.getElem_cons_succ, List.setIfInBounds_toArray, List.set_cons_zero, List.set_cons_succ]
  refine wpAnyH_ready (rs := [2]) (by kernel_rfl) (by simp) ?_
  refine AllReadyH.cons (o := _) rfl (fun K hK => ?_) AllReadyH.nil
  go_simp
  (refine (HCM.out _ q0).mono ?_; rintro e w2 ⟨_, rfl, rfl, hb2⟩; have q1 := q0.trans (hb2.mono q0.size))
  refine hK.out _ _ ?_ (fun hHeld => ?_)
  · trivial
  clear hK K
  try simp only [Act.put, List.getElem_toArray, List.getElem_cons_zero, List.getElem_cons_succ, List.setIfInBounds_toArray, List.set_cons_zero, List.set_cons_succ]
  refine wpAnyH_take (i := 3) (oi := _) (v := ?_) rfl (by kernel_rfl) (by kernel_rfl) (by kernel_rfl) (fun _ _ _ h => h) (Or.inl ⟨by rfl, ?_⟩) (by assumption) ?_
  rotate_left
  · intro w hSw; (try dsimp only at hSw); first | (go_simp; done) | (go_simp; with_reducible rfl)
  try simp only [Act.put, List.getElem_toArray, List.getElem_cons_zero, List.getElem_cons_succ, List.setIfInBounds_toArray, List.set_cons_zero, List.set_cons_succ]
  refine wpAnyH_done (by kernel_rfl) ?_ _
  go_wp2_with fail
  go_ret
  exact ⟨_, rfl, rfl, hB.trans (q1.mono hB.size)⟩

set_option maxHeartbeats 4000000 in
set_option maxRecDepth 100000 in
theorem insertionE_any (w0 w : World) (g cap : Nat) (l0 : List Edge) (hln : l0.length ≤ 12) (hsz : ∀ q ∈ l0, SmE q) (hrow : RowE w g l0) (hgl : g < w.heap.size) (hb0 : Below w0.heap.size w0 w) (h0g : w0.heap.size ≤ g) (hg : Good w0) :
    Calls Tryz.prog 179 #[.slice (some ⟨g, 0, none⟩) l0.length cap, .int .i64 0, .int .i64 (l0.length : Int), .func (.func 54) #[] #[]] w
      (fun e w' => e = .returned (.tuple #[]) ∧ ∃ l, l.Perm l0 ∧ SortTo (l.map keyQ) l.length ∧ RowE w' g l ∧ w.grownBy w' (some g)) := by
  have HSZ := Lib.hid hsz
  have HCM : Hid (∀ (p q : Edge) (w : World), Calls Tryz.prog 54 #[.agg #[.int .i64 p.1, .int .i64 p.2], .agg #[.int .i64 q.1, .int .i64 q.2]] w (Ret (fun v _ => v = .int .i64 (cmpE p q)) w)) := fun p q w => edges1_any p q w
  obtain ⟨n, hn⟩ : ∃ n, n = l0.length := ⟨_, rfl⟩
  rw [← hn] at hln ⊢
  have HN := Lib.hid hn
  have HROW := Lib.hid hrow
  clear hsz hn hrow
  go_enter Tryz.func179, Tryz.ntmps179
  go_wp2_with fail
  go_loopw [8] (fun t8 wr => ∃ (i : Nat) (l : List Edge), t8 = .int .i64 i ∧ 1 ≤ i ∧ (i ≤ n ∨ i = 1) ∧ Hid (l.Perm l0) ∧ Hid (SortTo (l.map keyQ) i) ∧ Hid (RowE wr g l) ∧ w.grownBy wr (some g)) (fun t8 _ => n - (RowKit.intOf t8).toNat)
  case atStart => exact ⟨1, l0, rfl, by omega, .inr rfl, List.Perm.refl _, (fun a b x y h1 h2 => by omega), HROW.out, gb_refl _ _⟩
  case round =>
    obtain ⟨i, l, rfl, hi1, hin, HP, HS, HR, hgb⟩ := hrel
    clear HROW
    rcases Nat.lt_or_ge i n with h | h
    · have hiz : (i : Int) < (n : Int) := by omega
      obtain ⟨wo, hwo⟩ : ∃ wo : World, wo = wr := ⟨_, rfl⟩
      subst hwo
      go_wp2_with fail
      go_loopw [9] (fun t9 wr => ∃ (j : Nat) (l : List Edge), t9 = .int .i64 j ∧ j ≤ i ∧ Hid (l.Perm l0) ∧ Hid (InsAt (l.map keyQ) i j) ∧ Hid (RowE wr g l) ∧ w.grownBy wr (some g)) (fun t9 _ => (RowKit.intOf t9).toNat)
      case atStart => exact ⟨i, l, rfl, Nat.le_refl _, HP, InsAt.start HS.out, HR.out, hgb⟩
      case round =>
        clear HP HS HR hgb
        obtain ⟨j, l, rfl, hji, HP, HI, HR, hgb⟩ := hrel
        have HLN : Hid (l.length = n) := by unfold Hid; rw [HP.out.length_eq, HN.out]
        have hbr : Below w0.heap.size w0 wr := below_gb hb0 hgb h0g
        have hgr := hg.below hbr
        have hgd : Good wr.drew := hgr.drewN 1
        have hgl2 : g < wr.heap.size := Nat.lt_of_lt_of_le hgl hgb.size
        rcases j with _ | jp
        · rw [show ((0 : Nat) : Int) = 0 from rfl]
          have HDN : Hid (SortTo (l.map keyQ) (i + 1)) := HI.out.done (fun jq u v e => by omega) hji (by rw [List.length_map, HLN.out]; exact h)
          clear hgd hgr hbr
          go_upto_region 4 with fail
          go_region
          go_wp2_with fail
          go_roundw
          case rel => exact ⟨i + 1, l, by go_num, by omega, .inl (by omega), HP, HDN, HR.out, gb_below hgb (below_drewN _ 1)⟩
          case measure => simp [RowKit.intOf]; omega
        · rw [show ((jp + 1 : Nat) : Int) = (jp : Int) + 1 from rfl]
          have hj1 : jp + 1 < l.length := by rw [HLN.out]; omega
          obtain ⟨x, hx⟩ : ∃ x, l[jp]? = some x := ⟨_, List.getElem?_eq_getElem (by omega)⟩
          obtain ⟨y, hy⟩ : ∃ y, l[jp + 1]? = some y := ⟨_, List.getElem?_eq_getElem hj1⟩
          have zx : SmE x := HSZ.out x (HP.out.mem_iff.1 (List.mem_of_getElem? hx))
          have zy : SmE y := HSZ.out y (HP.out.mem_iff.1 (List.mem_of_getElem? hy))
          have HC : Hid (∀ w, _) := fun w => HCM.out y x w
          obtain ⟨⟨c0, f0⟩, c0', f0'⟩ := HR.out jp x hx
          obtain ⟨⟨c1, f1⟩, c1', f1'⟩ := HR.out (jp + 1) y hy
          have HX := Lib.hid hx
          have HZX := Lib.hid zx
          have HZY := Lib.hid zy
          have HY := Lib.hid hy
          have hjz1 : (jp : Int) + 1 < (n : Int) := by omega
          have hjz2 : (jp : Int) < (n : Int) := by omega
          have hjz3 : (0 : Int) < (jp : Int) + 1 := by omega
          have hw1 : IntKind.i64.wrap ((jp : Int) + 1) = (jp : Int) + 1 := IntWalk.i64_in _ (by omega)
          have hw2 : IntKind.i64.wrap ((jp : Int) + 1 - 1) = (jp : Int) := by rw [show (jp : Int) + 1 - 1 = (jp : Int) by omega]; exact IntWalk.i64_in _ (by omega)
          have hw3 : IntKind.i64.wrap (jp : Int) = (jp : Int) := IntWalk.i64_in _ (by omega)
          have hw4 : (0 : Int) ≤ (jp : Int) + 1 := by omega
          have hw5 : ((jp : Int) + 1).toNat = jp + 1 := by omega
          have hdec : decide ((0 : Int) < (jp : Int) + 1) = true := decide_eq_true hjz3
          clear hx hy hj1 zx zy
          go_upto_region 4 with fail
          go_region_held3 (fun w' => w'.cell? ⟨g, (jp + 1) * 2, none⟩ = some (.int .i64 y.1) ∧ w'.cell? ⟨g, (jp + 1) * 2 + 1, none⟩ = some (.int .i64 y.2) ∧ w'.cell? ⟨g, jp * 2, none⟩ = some (.int .i64 x.1) ∧ w'.cell? ⟨g, jp * 2 + 1, none⟩ = some (.int .i64 x.2))
            (first | exact ⟨c1, c1', c0, c0'⟩ | exact ⟨p_1_0, p_1_1, p_1_2, p_1_3⟩)
            (first
            | (go_at_call 54; refine (HC.out _).mono ?_; rintro e pw1 ⟨_, rfl, rfl, pb1⟩
               have p_1_0 := (pb1.cell (p := ⟨g, (jp + 1) * 2, none⟩) (by show g < wr.heap.size; omega)).trans c1
               have p_1_1 := (pb1.cell (p := ⟨g, (jp + 1) * 2 + 1, none⟩) (by show g < wr.heap.size; omega)).trans c1'
               have p_1_2 := (pb1.cell (p := ⟨g, jp * 2, none⟩) (by show g < wr.heap.size; omega)).trans c0
               have p_1_3 := (pb1.cell (p := ⟨g, jp * 2 + 1, none⟩) (by show g < wr.heap.size; omega)).trans c0'
               have ps1 : wr.heap.size ≤ pw1.heap.size := pb1.size
               have pg1 : Good pw1 := hgd.below pb1))
          have pB : Below wr.heap.size wr pw1 := ((below_drewN wr 1).trans (pb1.mono (by show wr.heap.size ≤ wr.heap.size; omega)))
          clear hw1 hw2 hw3 hw5 hdec
          have hgb1 := gb_below hgb pB
          have HR1 : Hid (RowE pw1 g l) := RowE.below HR.out pB hgl2
          have hbr1 : Below w0.heap.size w0 pw1 := below_gb hb0 hgb1 h0g
          have HCZ : Hid (cmpE y x < 0 ↔ keyQ y < keyQ x) := cmpE_neg y x HZY.out HZX.out
          have hgl3 : g < pw1.heap.size := Nat.lt_of_lt_of_le hgl hgb1.size
          generalize cmpE y x = z at *
          clear hgb HR c0 c1 f0 f1 c0' c1' f0' f1' hgd pg1 pB hbr hgr
          obtain ⟨⟨c0, f0⟩, c0', f0'⟩ := HR1.out jp x HX.out
          obtain ⟨⟨c1, f1⟩, c1', f1'⟩ := HR1.out (jp + 1) y HY.out
          by_cases hz : z < 0
          · have hlt := HCZ.out.1 hz
            have HLT := Lib.hid hlt
            have HL1 : Hid (jp + 1 < l.length) := by unfold Hid; rw [HLN.out]; omega
            have hIS : InsAt ((swapE l jp x y).map keyQ) i jp := by rw [swapE_key]; exact InsAt.step HI.out (map_get HX.out) (map_get HY.out) hji hlt
            have HIS := Lib.hid hIS
            have HPS : Hid ((swapE l jp x y).Perm l0) := (swapE_perm l jp x y HX.out HY.out).trans HP.out
            have hw1 : IntKind.i64.wrap ((jp : Int) + 1) = (jp : Int) + 1 := IntWalk.i64_in _ (by omega)
            have hw2 : IntKind.i64.wrap ((jp : Int) + 1 - 1) = (jp : Int) := by rw [show (jp : Int) + 1 - 1 = (jp : Int) by omega]; exact IntWalk.i64_in _ (by omega)
            have hw3 : IntKind.i64.wrap (jp : Int) = (jp : Int) := IntWalk.i64_in _ (by omega)
            have hw5 : ((jp : Int) + 1).toNat = jp + 1 := by omega
            have hne1 : jp ≠ jp + 1 := by omega
            have hne2 : jp + 1 ≠ jp := by omega
            clear hIS hlt
            go_upto_region 6 with fail
            go_region
            have HR2 : Hid (RowE ((((pw1.setCell ⟨g, (jp + 1) * 2, none⟩ (.int .i64 x.1)).setCell ⟨g, (jp + 1) * 2 + 1, none⟩ (.int .i64 x.2)).setCell ⟨g, jp * 2, none⟩ (.int .i64 y.1)).setCell ⟨g, jp * 2 + 1, none⟩ (.int .i64 y.2)).drew g (swapE l jp x y)) := by
              unfold Hid swapE
              exact ((HR1.out.set (jp + 1) x HL1.out).set jp y (by rw [List.length_set]; have := HL1.out; omega)).drew
            have hgb2 : w.grownBy ((((pw1.setCell ⟨g, (jp + 1) * 2, none⟩ (.int .i64 x.1)).setCell ⟨g, (jp + 1) * 2 + 1, none⟩ (.int .i64 x.2)).setCell ⟨g, jp * 2, none⟩ (.int .i64 y.1)).setCell ⟨g, jp * 2 + 1, none⟩ (.int .i64 y.2)).drew (some g) :=
              gb_below (gb_set (gb_set (gb_set (gb_set hgb1 ((jp + 1) * 2) _) ((jp + 1) * 2 + 1) _) (jp * 2) _) (jp * 2 + 1) _) (below_drewN _ 1)
            clear hw1 hw2 hw3 hw5
            go_wp2_with fail
            go_roundw
            case rel => exact ⟨jp, _, by go_num, by omega, HPS, HIS, HR2, hgb2⟩
            case measure => simp [RowKit.intOf] <;> omega
          · have hnl : ¬ keyQ y < keyQ x := fun h => hz (HCZ.out.2 h)
            have HDN : Hid (SortTo (l.map keyQ) (i + 1)) := HI.out.done (fun jq u v e hu hv => by
              obtain rfl : jp = jq := by omega
              rw [map_get HX.out] at hu; rw [map_get HY.out] at hv; cases hu; cases hv
              exact Rat.not_lt.1 hnl) hji (by rw [List.length_map, HLN.out]; exact h)
            clear hnl c0 f0 c1 f1 c0' f0' c1' f1'
            go_wp2_with fail
            go_roundw
            case rel => exact ⟨i + 1, l, by go_num, by omega, .inl (by omega), HP, HDN, HR1, hgb1⟩
            case measure => simp [RowKit.intOf]; omega
    · have hge : (n : Int) ≤ (i : Int) := by omega
      have HLN : Hid (l.length = n) := by unfold Hid; rw [HP.out.length_eq, HN.out]
      have HS2 : Hid (SortTo (l.map keyQ) l.length) := fun a b x y h1 h2 hx hy => HS.out a b x y h1 (by have := HLN.out; omega) hx hy
      go_wp2_with fail
      go_end0
      exact ⟨rfl, l, HP.out, HS2.out, HR.out, hgb⟩

set_option maxHeartbeats 1000000 in
set_option maxRecDepth 100000 in
theorem pdqE_any (w0 w : World) (g cap : Nat) (l0 : List Edge) (hln : l0.length ≤ 12) (hsz : ∀ q ∈ l0, SmE q) (hrow : RowE w g l0) (hgl : g < w.heap.size) (hb0 : Below w0.heap.size w0 w) (h0g : w0.heap.size ≤ g) (hg : Good w0) (lim : Int) :
    Calls Tryz.prog 118 #[.slice (some ⟨g, 0, none⟩) l0.length cap, .int .i64 0, .int .i64 (l0.length : Int), .int .i64 lim, .func (.func 54) #[] #[]] w
      (fun e w' => e = .returned (.tuple #[]) ∧ ∃ l, l.Perm l0 ∧ SortTo (l.map keyQ) l.length ∧ RowE w' g l ∧ w.grownBy w' (some g)) := by
  have HI := Lib.hid (insertionE_any w0 w g cap l0 hln hsz hrow hgl hb0 h0g hg)
  have hnz : (l0.length : Int) ≤ 12 := by omega
  have hnz0 : (0 : Int) ≤ (l0.length : Int) := by omega
  generalize l0.length = n at *
  clear hsz hrow hgl hb0 h0g hg
  go_enter Tryz.func118, Tryz.ntmps118
  go_wp2_with fail
  refine wp_loop_rounds 1 ?_
  rw [rounds_succ]
  go_wp2_with fail
  refine HI.out.mono ?_
  rintro e w' ⟨rfl, l, h1, h2, h3, h4⟩
  go_wp2_with fail
  exact bodyPost_ret (v := .tuple #[]) (by simp [results, Tryz.results118, go_sem]) rfl ⟨rfl, l, h1, h2, h3, h4⟩

set_option maxHeartbeats 1000000 in
set_option maxRecDepth 100000 in
/-- slices.SortFunc at at most twelve pairs. -/
theorem sortPair_any (w0 w : World) (g cap : Nat) (l0 : List Edge) (hln : l0.length ≤ 12) (hsz : ∀ q ∈ l0, SmE q) (hrow : RowE w g l0) (hgl : g < w.heap.size) (hb0 : Below w0.heap.size w0 w) (h0g : w0.heap.size ≤ g) (hg : Good w0) :
    Calls Tryz.prog 53 #[.slice (some ⟨g, 0, none⟩) l0.length cap, .func (.func 54) #[] #[]] w
      (fun e w' => e = .returned (.tuple #[]) ∧ ∃ l, l.Perm l0 ∧ SortTo (l.map keyQ) l.length ∧ RowE w' g l ∧ w.grownBy w' (some g)) := by
  have HI : Hid (∀ lim : Int, _) := fun lim => pdqE_any w0 w g cap l0 hln hsz hrow hgl hb0 h0g hg lim
  have hl : Calls Tryz.prog 119 #[.int .u64 (l0.length : Int)] w fun e w' => e = .returned (.int .i64 (Lib.bitLen l0.length : Nat)) ∧ w' = w := by
    have h := Any.bits_Len (SlLaysF0.n15.bits (P := Tryz.prog) (ρ := Tryz.sortPair_ren) { Tryz.sortPair with }) (l0.length : Int) w (by omega) (by omega)
    rwa [Int.toNat_natCast] at h
  have wr : IntKind.u64.wrap (l0.length : Int) = l0.length := by simp [IntKind.wrap, IntKind.bits, IntKind.signed]; omega
  have hnz : (l0.length : Int) ≤ 12 := by omega
  generalize Lib.bitLen l0.length = lim at *
  generalize l0.length = n at *
  clear hsz hrow hgl hb0 h0g hg
  go_enter Tryz.func53, Tryz.ntmps53
  go_wp2_with fail
  refine hl.mono ?_
  rintro e w1 ⟨rfl, hw1⟩
  rw [hw1]
  clear hw1
  go_wp2_with fail
  refine (HI.out _).mono ?_
  rintro e w' ⟨rfl, l, h1, h2, h3, h4⟩
  go_wp2_with fail
  go_end0
  exact ⟨rfl, l, h1, h2, h3, h4⟩

end Go.Proofs.YtdhcliekejiegaaGreatDoor
