/- The walk over mesh.within. -/
import Derived.Test.YtdhcliekejiegaaGreatDoorM3
namespace Go.Proofs.YtdhcliekejiegaaGreatDoor
open Go.RowKit Go.Lib

def wStep (a b : PtQ) (st : Option (Rat × Rat)) (s : PtQ × PtQ) : Option (Rat × Rat) :=
  match st with
  | none => none
  | some l =>
    if areaQ s.1 s.2 a = areaQ s.1 s.2 b then (if areaQ s.1 s.2 a < 0 then none else some l)
    else if areaQ s.1 s.2 a < areaQ s.1 s.2 b then some (maxQ l.1 (areaQ s.1 s.2 a / (areaQ s.1 s.2 a - areaQ s.1 s.2 b)), l.2)
    else some (l.1, minQ l.2 (areaQ s.1 s.2 a / (areaQ s.1 s.2 a - areaQ s.1 s.2 b)))
def sidesW (c0 c1 c2 : PtQ) : List (PtQ × PtQ) := [(c0, c1), (c1, c2), (c2, c0)]
/-- The shares between which a segment lies in a triangle, behind n sides. -/
def withinN (c0 c1 c2 a b : PtQ) (n : Nat) : Option (Rat × Rat) := ((sidesW c0 c1 c2).take n).foldl (wStep a b) (some (0, 1))
/-- .. if they have a length. -/
def withinF (c0 c1 c2 a b : PtQ) : Option (Rat × Rat) := (withinN c0 c1 c2 a b 3).bind fun l => if l.1 < l.2 then some l else none
theorem withinN_step (c0 c1 c2 a b : PtQ) (i : Nat) (h : i < 3) : withinN c0 c1 c2 a b (i + 1) = wStep a b (withinN c0 c1 c2 a b i) ((sidesW c0 c1 c2)[i]'h) := by
  unfold withinN
  rw [List.take_succ_eq_append_getElem (by exact h), List.foldl_append]
  rfl
theorem withinN_none (c0 c1 c2 a b : PtQ) (i : Nat) (h : i ≤ 3) (hn : withinN c0 c1 c2 a b i = none) : withinF c0 c1 c2 a b = none := by
  have key : ∀ n, n ≤ 3 → i ≤ n → withinN c0 c1 c2 a b n = none := by
    intro n
    induction n with
    | zero => intro _ h0; obtain rfl : i = 0 := by omega
              exact hn
    | succ n ih =>
      intro h3 h0
      rcases Nat.lt_or_ge n i with h4 | h4
      · obtain rfl : i = n + 1 := by omega
        exact hn
      · rw [withinN_step _ _ _ _ _ _ (by omega), ih (by omega) h4]; rfl
  unfold withinF
  rw [key 3 (by omega) h]; rfl
theorem wStep_eq {a b p q : PtQ} {l : Rat × Rat} (h : areaQ p q a = areaQ p q b) (h0 : ¬ areaQ p q a < 0) : wStep a b (some l) (p, q) = some l := by
  unfold wStep; dsimp only; rw [if_pos h, if_neg h0]
theorem wStep_out {a b p q : PtQ} {l : Rat × Rat} (h : areaQ p q a = areaQ p q b) (h0 : areaQ p q a < 0) : wStep a b (some l) (p, q) = none := by
  unfold wStep; dsimp only; rw [if_pos h, if_pos h0]
theorem wStep_lt {a b p q : PtQ} {l : Rat × Rat} (h : areaQ p q a < areaQ p q b) : wStep a b (some l) (p, q) = some (maxQ l.1 (areaQ p q a / (areaQ p q a - areaQ p q b)), l.2) := by
  have hne : ¬ areaQ p q a = areaQ p q b := fun e => by rw [e] at h; exact Rat.lt_irrefl h
  unfold wStep; dsimp only; rw [if_neg hne, if_pos h]
theorem wStep_gt {a b p q : PtQ} {l : Rat × Rat} (h : areaQ p q b < areaQ p q a) : wStep a b (some l) (p, q) = some (l.1, minQ l.2 (areaQ p q a / (areaQ p q a - areaQ p q b))) := by
  have hne : ¬ areaQ p q a = areaQ p q b := fun e => by rw [e] at h; exact Rat.lt_irrefl h
  unfold wStep; dsimp only; rw [if_neg hne, if_neg (Rat.not_lt.2 (Rat.le_of_lt h))]
theorem maxQ_Sz {k : Nat} {p q : Rat} (hp : Sz k p) (hq : Sz k q) : Sz k (maxQ p q) := by unfold maxQ; split <;> assumption
theorem minQ_Sz {k : Nat} {p q : Rat} (hp : Sz k p) (hq : Sz k q) : Sz k (minQ p q) := by unfold minQ; split <;> assumption

theorem ratSign_neg (q : Rat) (h : q < 0) (w : World) :
    Calls Tryz.prog 122 #[.string (RS q)] w (Ret (fun v _ => v = .int .i64 (-1)) w) :=
  (ratSign_any q w).mono fun e w' ⟨v, he, hv, n, hw⟩ => ⟨v, he, by rw [hv, Int.sign_eq_neg_one_of_neg (num_lt_zero_iff.2 h)], hw ▸ below_drewN w n⟩
theorem ratSign_nn (q : Rat) (h : ¬ q < 0) (w : World) :
    Calls Tryz.prog 122 #[.string (RS q)] w (Ret (fun v _ => ∃ z : Int, v = .int .i64 z ∧ 0 ≤ z ∧ z ≤ 1) w) :=
  (ratSign_any q w).mono fun e w' ⟨v, he, hv, n, hw⟩ => ⟨v, he, ⟨_, hv, by rw [sign_if, if_neg h]; split <;> decide⟩, hw ▸ below_drewN w n⟩
theorem ratCmp_lt (p q : Rat) (k : Nat) (hk : 0 < k) (hk2 : k ≤ 20000) (hp : Sz k p) (hq : Sz k q) (h : p < q) (w : World) (hg : Good w) :
    Calls Tryz.prog 96 #[.string (RS p), .string (RS q)] w (Ret (fun v _ => v = .int .i64 (-1)) w) := by
  have := ratCompare_any p q k hk hk2 hp hq w hg
  rwa [show cmpQ p q = -1 by unfold cmpQ; rw [if_pos h]] at this
theorem ratCmp_nlt (p q : Rat) (k : Nat) (hk : 0 < k) (hk2 : k ≤ 20000) (hp : Sz k p) (hq : Sz k q) (h : ¬ p < q) (w : World) (hg : Good w) :
    Calls Tryz.prog 96 #[.string (RS p), .string (RS q)] w (Ret (fun v _ => ∃ z : Int, v = .int .i64 z ∧ 0 ≤ z ∧ z ≤ 1) w) :=
  (ratCompare_any p q k hk hk2 hp hq w hg).mono fun e w' ⟨v, he, hv, hb⟩ => ⟨v, he, ⟨_, hv, by unfold cmpQ; rw [if_neg h]; split <;> decide⟩, hb⟩

/-- What within returns. -/
def WithinP (l : Option (Rat × Rat)) (v : Value) : Prop := ∃ x y, v = .tuple #[.string x, .string y, .bool l.isSome] ∧ ∀ r, l = some r → x = RS r.1 ∧ y = RS r.2 ∧ Sz 200 r.1 ∧ Sz 200 r.2 ∧ r.1 < r.2

set_option maxHeartbeats 4000000 in
set_option maxRecDepth 100000 in
theorem within_any (c0 c1 c2 a b : PtQ) (m : Nat) (hm0 : 0 < m) (hm7 : m ≤ 7) (z0 : SzP m c0) (z1 : SzP m c1) (z2 : SzP m c2) (za : SzP m a) (zb : SzP m b) (w : World) (hg : Good w) :
    Calls Tryz.prog 105 #[.agg #[.string (RS c0.1), .string (RS c0.2), .string (RS c1.1), .string (RS c1.2), .string (RS c2.1), .string (RS c2.2)], .agg #[.string (RS a.1), .string (RS a.2)], .agg #[.string (RS b.1), .string (RS b.2)]] w (Ret (fun r _ => WithinP (withinF c0 c1 c2 a b) r) w) := by
  have HCO : Hid (∀ i : Nat, i < 3 → ∃ (p q : PtQ) (jc : Nat), jc < 3 ∧ ((i : Int) + 1) % 3 = (jc : Int) ∧ SzP m p ∧ SzP m q ∧ withinN c0 c1 c2 a b (i + 1) = wStep a b (withinN c0 c1 c2 a b i) (p, q) ∧
      ∀ (w' : World) (b t : Nat), BoxN w' b t [.string (RS c0.1), .string (RS c0.2), .string (RS c1.1), .string (RS c1.2), .string (RS c2.1), .string (RS c2.2)] →
        w'.cell? ⟨b, i * 2, none⟩ = some (.string (RS p.1)) ∧ w'.cell? ⟨b, i * 2 + 1, none⟩ = some (.string (RS p.2)) ∧ w'.cell? ⟨b, jc * 2, none⟩ = some (.string (RS q.1)) ∧ w'.cell? ⟨b, jc * 2 + 1, none⟩ = some (.string (RS q.2))) := fun i hi => by
    have hst := withinN_step c0 c1 c2 a b i hi
    rcases (by omega : i = 0 ∨ i = 1 ∨ i = 2) with rfl | rfl | rfl
    · exact ⟨c0, c1, 1, by omega, by decide, z0, z1, hst, fun w' b t h => ⟨h.cell 0 rfl, h.cell 1 rfl, h.cell 2 rfl, h.cell 3 rfl⟩⟩
    · exact ⟨c1, c2, 2, by omega, by decide, z1, z2, hst, fun w' b t h => ⟨h.cell 2 rfl, h.cell 3 rfl, h.cell 4 rfl, h.cell 5 rfl⟩⟩
    · exact ⟨c2, c0, 0, by omega, by decide, z2, z0, hst, fun w' b t h => ⟨h.cell 4 rfl, h.cell 5 rfl, h.cell 0 rfl, h.cell 1 rfl⟩⟩
  have HNO : Hid (∀ i, i ≤ 3 → withinN c0 c1 c2 a b i = none → withinF c0 c1 c2 a b = none) := fun i h hn => withinN_none c0 c1 c2 a b i h hn
  have HFI : Hid (∀ l, withinN c0 c1 c2 a b 3 = some l → withinF c0 c1 c2 a b = if l.1 < l.2 then some l else none) := fun l h => by unfold withinF; rw [h]; rfl
  have H00 : Hid (withinN c0 c1 c2 a b 0 = some (0, 1)) := rfl
  have HZ0 := Lib.hid (RS_zero)
  have HZ1 := Lib.hid (RS_one)
  have HZA := Lib.hid za
  have HZB := Lib.hid zb
  obtain ⟨Nf, hNf⟩ : ∃ Nf : Nat → Option (Rat × Rat), Nf = withinN c0 c1 c2 a b := ⟨_, rfl⟩
  obtain ⟨Ff, hFf⟩ : ∃ Ff : Option (Rat × Rat), Ff = withinF c0 c1 c2 a b := ⟨_, rfl⟩
  rw [← hNf] at HCO HNO HFI H00
  rw [← hFf] at HNO HFI ⊢
  clear z0 z1 z2 za zb hNf hFf
  go_enter Tryz.func105, Tryz.ntmps105
  go_wp2_with fail
  obtain ⟨W, hW⟩ : ∃ W, W = ((w.alloc (.cells #[.string (RS c0.1), .string (RS c0.2), .string (RS c1.1), .string (RS c1.2), .string (RS c2.1), .string (RS c2.2)] 109)).alloc (.cells #[.string (RS a.1), .string (RS a.2)] 59)).alloc (.cells #[.string (RS b.1), .string (RS b.2)] 59) := ⟨_, rfl⟩
  have hB : Below w.heap.size w W := by rw [hW]; exact (((Below.refl _ _).alloc (Nat.le_refl _) _).alloc (by simp) _).alloc (by simp; omega) _
  have b5 : BoxN W (w.heap.size + 1 + 1) 59 [.string (RS b.1), .string (RS b.2)] := by rw [hW]; exact BoxN.new _ _ _ _ (by simp)
  have b4 : BoxN W (w.heap.size + 1) 59 [.string (RS a.1), .string (RS a.2)] := by
    rw [hW]
    have h1 := (BoxN.new (w.alloc (.cells #[.string (RS c0.1), .string (RS c0.2), .string (RS c1.1), .string (RS c1.2), .string (RS c2.1), .string (RS c2.2)] 109)) #[.string (RS a.1), .string (RS a.2)] 59 (w.heap.size + 1) (by simp))
    exact h1.below ((Below.refl _ _).alloc (Nat.le_refl _) _) h1.lt
  have b3 : BoxN W w.heap.size 109 [.string (RS c0.1), .string (RS c0.2), .string (RS c1.1), .string (RS c1.2), .string (RS c2.1), .string (RS c2.2)] := by
    rw [hW]
    have h1 := (BoxN.new w #[.string (RS c0.1), .string (RS c0.2), .string (RS c1.1), .string (RS c1.2), .string (RS c2.1), .string (RS c2.2)] 109 _ rfl)
    exact h1.below (((Below.refl _ _).alloc (Nat.le_refl _) _).alloc (by simp) _) h1.lt
  rw [← hW]
  clear hW
  go_loopw [6, 7, 14] (fun t6 t7 t14 wr => ∃ (i : Nat) (lo hi : Rat), t14 = .int .i64 i ∧ i ≤ 3 ∧ t6 = .string (RS lo) ∧ t7 = .string (RS hi) ∧ Hid (Nf i = some (lo, hi)) ∧ Hid (Sz (24 * m + 16) lo ∧ Sz (24 * m + 16) hi) ∧ Below W.heap.size W wr) (fun _ _ t14 _ => 3 - (RowKit.intOf t14).toNat)
  case atStart => exact ⟨0, 0, 1, rfl, by omega, by rw [HZ0.out], by rw [HZ1.out], H00, ⟨Sz.zero _ (by omega), Sz.one.mono (by omega)⟩, Below.refl _ _⟩
  case round =>
    obtain ⟨i, lo, hi, rfl, hi3, rfl, rfl, HST, HSZ, hbr⟩ := hrel
    have hbW := hB.trans (hbr.mono hB.size)
    have b3r := b3.below hbr b3.lt
    have b4r := b4.below hbr b4.lt
    have b5r := b5.below hbr b5.lt
    rcases Nat.lt_or_ge i 3 with h | h
    · obtain ⟨p, q, jc, hj3, hjc, zp, zq, hst, hcells⟩ := HCO.out i h
      have HNX : Hid (Nf (i + 1) = wStep a b (some (lo, hi)) (p, q)) := by unfold Hid; rw [hst, HST.out]
      have za := HZA.out
      have zb := HZB.out
      have zu := areaQ_Sz zp zq za
      have zv := areaQ_Sz zp zq zb
      have HA1 : Hid (∀ w, Good w → _) := fun w hg => area_any p q a m hm0 (by omega) zp zq za w hg
      have HA2 : Hid (∀ w, Good w → _) := fun w hg => area_any p q b m hm0 (by omega) zp zq zb w hg
      unfold VP at HA1 HA2
      have HWE : Hid (areaQ p q a = areaQ p q b → ¬ areaQ p q a < 0 → Nf (i + 1) = some (lo, hi)) := fun h1 h2 => by rw [HNX.out]; exact wStep_eq h1 h2
      have HWO : Hid (areaQ p q a = areaQ p q b → areaQ p q a < 0 → Nf (i + 1) = none) := fun h1 h2 => by rw [HNX.out]; exact wStep_out h1 h2
      have HWL : Hid (areaQ p q a < areaQ p q b → Nf (i + 1) = some (maxQ lo (areaQ p q a / (areaQ p q a - areaQ p q b)), hi)) := fun h1 => by rw [HNX.out]; exact wStep_lt h1
      have HWG : Hid (areaQ p q b < areaQ p q a → Nf (i + 1) = some (lo, minQ hi (areaQ p q a / (areaQ p q a - areaQ p q b)))) := fun h1 => by rw [HNX.out]; exact wStep_gt h1
      obtain ⟨y0, y1, y2, y3⟩ := hcells wr w.heap.size _ b3r
      generalize areaQ p q a = u at *
      generalize areaQ p q b = v at *
      have HZU := Lib.hid zu
      have HZV := Lib.hid zv
      have a0 := b4r.cell 0 rfl
      have a1 := b4r.cell 1 rfl
      have c0' := b5r.cell 0 rfl
      have c1' := b5r.cell 1 rfl
      have hl3 := b3r.lt
      have hl4 := b4r.lt
      have hl5 := b5r.lt
      have hiz : (i : Int) < 3 := by omega
      have hjz : (jc : Int) < 3 := by omega
      have hjt : ((i : Int) + 1).tmod 3 = (jc : Int) := by rw [Int.tmod_eq_emod_of_nonneg (by omega)]; exact hjc
      have hw1 : IntKind.i64.wrap ((i : Int) + 1) = (i : Int) + 1 := IntWalk.i64_in _ (by omega)
      have hw3 : (0 : Int) ≤ (i : Int) + 1 := by omega
      have hw5 : IntKind.i64.wrap (jc : Int) = (jc : Int) := IntWalk.i64_in _ (by omega)
      have hgr := hg.below hbW
      have hgd : Good wr.drew := hgr.drewN 1
      clear hcells zp zq za zb zu zv hst HCO HNX HST
      go_upto_region 5 with fail
      go_region_held3 (fun w' => w'.cell? ⟨w.heap.size, i * 2, none⟩ = some (.string (RS p.1)) ∧ w'.cell? ⟨w.heap.size, i * 2 + 1, none⟩ = some (.string (RS p.2)) ∧ w'.cell? ⟨w.heap.size, jc * 2, none⟩ = some (.string (RS q.1)) ∧ w'.cell? ⟨w.heap.size, jc * 2 + 1, none⟩ = some (.string (RS q.2)) ∧ w'.cell? ⟨w.heap.size + 1, 0, none⟩ = some (.string (RS a.1)) ∧ w'.cell? ⟨w.heap.size + 1, 1, none⟩ = some (.string (RS a.2)) ∧ w'.cell? ⟨w.heap.size + 1 + 1, 0, none⟩ = some (.string (RS b.1)) ∧ w'.cell? ⟨w.heap.size + 1 + 1, 1, none⟩ = some (.string (RS b.2)))
        (first | exact ⟨y0, y1, y2, y3, a0, a1, c0', c1'⟩ | exact ⟨p_1_0, p_1_1, p_1_2, p_1_3, p_1_4, p_1_5, p_1_6, p_1_7⟩ | exact ⟨p_2_0, p_2_1, p_2_2, p_2_3, p_2_4, p_2_5, p_2_6, p_2_7⟩)
        (first
        | (go_at_call 50; refine (HA2.out _ pg1).mono ?_; rintro e pw2 ⟨_, rfl, rfl, pb2⟩
           have p_2_0 := (pb2.cell (p := ⟨w.heap.size, i * 2, none⟩) (by show w.heap.size < pw1.heap.size; omega)).trans p_1_0
           have p_2_1 := (pb2.cell (p := ⟨w.heap.size, i * 2 + 1, none⟩) (by show w.heap.size < pw1.heap.size; omega)).trans p_1_1
           have p_2_2 := (pb2.cell (p := ⟨w.heap.size, jc * 2, none⟩) (by show w.heap.size < pw1.heap.size; omega)).trans p_1_2
           have p_2_3 := (pb2.cell (p := ⟨w.heap.size, jc * 2 + 1, none⟩) (by show w.heap.size < pw1.heap.size; omega)).trans p_1_3
           have p_2_4 := (pb2.cell (p := ⟨w.heap.size + 1, 0, none⟩) (by show w.heap.size + 1 < pw1.heap.size; omega)).trans p_1_4
           have p_2_5 := (pb2.cell (p := ⟨w.heap.size + 1, 1, none⟩) (by show w.heap.size + 1 < pw1.heap.size; omega)).trans p_1_5
           have p_2_6 := (pb2.cell (p := ⟨w.heap.size + 1 + 1, 0, none⟩) (by show w.heap.size + 1 + 1 < pw1.heap.size; omega)).trans p_1_6
           have p_2_7 := (pb2.cell (p := ⟨w.heap.size + 1 + 1, 1, none⟩) (by show w.heap.size + 1 + 1 < pw1.heap.size; omega)).trans p_1_7
           have ps2 : pw1.heap.size ≤ pw2.heap.size := pb2.size
           have pg2 : Good pw2 := pg1.below pb2)
        | (go_at_call 50; refine (HA1.out _ hgd).mono ?_; rintro e pw1 ⟨_, rfl, rfl, pb1⟩
           have p_1_0 := (pb1.cell (p := ⟨w.heap.size, i * 2, none⟩) (by show w.heap.size < wr.heap.size; omega)).trans y0
           have p_1_1 := (pb1.cell (p := ⟨w.heap.size, i * 2 + 1, none⟩) (by show w.heap.size < wr.heap.size; omega)).trans y1
           have p_1_2 := (pb1.cell (p := ⟨w.heap.size, jc * 2, none⟩) (by show w.heap.size < wr.heap.size; omega)).trans y2
           have p_1_3 := (pb1.cell (p := ⟨w.heap.size, jc * 2 + 1, none⟩) (by show w.heap.size < wr.heap.size; omega)).trans y3
           have p_1_4 := (pb1.cell (p := ⟨w.heap.size + 1, 0, none⟩) (by show w.heap.size + 1 < wr.heap.size; omega)).trans a0
           have p_1_5 := (pb1.cell (p := ⟨w.heap.size + 1, 1, none⟩) (by show w.heap.size + 1 < wr.heap.size; omega)).trans a1
           have p_1_6 := (pb1.cell (p := ⟨w.heap.size + 1 + 1, 0, none⟩) (by show w.heap.size + 1 + 1 < wr.heap.size; omega)).trans c0'
           have p_1_7 := (pb1.cell (p := ⟨w.heap.size + 1 + 1, 1, none⟩) (by show w.heap.size + 1 + 1 < wr.heap.size; omega)).trans c1'
           have ps1 : wr.heap.size ≤ pw1.heap.size := pb1.size
           have pg1 : Good pw1 := hgd.below pb1))
      have pB : Below wr.heap.size wr pw2 := (((below_drewN wr 1).trans (pb1.mono (by show wr.heap.size ≤ wr.heap.size; omega))).trans (pb2.mono (by show wr.heap.size ≤ pw1.heap.size; omega)))
      have hbp : Below W.heap.size W pw2 := hbr.trans (pB.mono hbr.size)
      clear y0 y1 y2 y3 a0 a1 c0' c1' hgd hbr b3r b4r b5r hgr hbW HA1 HA2
      go_wp2_with fail
      refine (ratSub_any u v (8 * m + 5) (by omega) (by omega) HZU.out HZV.out pw2 pg2).mono ?_
      rintro e w4 ⟨_, rfl, rfl, hb4⟩
      have hbq : Below W.heap.size W w4 := hbp.trans (hb4.mono hbp.size)
      have hgq := hg.below (hB.trans (hbq.mono hB.size))
      clear hb4 hbp pg1 pg2 pB
      have HZD : Hid (Sz (16 * m + 11) (u - v)) := (HZU.out.sub HZV.out).mono (by omega)
      go_wp2_with fail
      by_cases hE : u = v
      · have HE := Lib.hid hE
        rw [show u - v = 0 by rw [HE.out]; grind]
        clear hE
        refine (ratDiv_zero u w4).mono ?_
        rintro e w5 ⟨_, rfl, rfl, hb5⟩
        have hbq5 : Below W.heap.size W w5 := hbq.trans (hb5.mono hbq.size)
        clear hb5 hbq hgq
        go_wp2_with fail
        by_cases h0 : u < 0
        · have H0 := Lib.hid h0
          refine (ratSign_neg u h0 w5).mono ?_
          rintro e w6 ⟨_, rfl, rfl, hb6⟩
          have hbq6 : Below w.heap.size w w6 := hB.trans ((hbq5.trans (hb6.mono hbq5.size)).mono hB.size)
          have HF : Hid (WithinP Ff (.tuple #[.string ⟨#[]⟩, .string ⟨#[]⟩, .bool false])) := by
            have hF : Ff = none := HNO.out (i + 1) (by omega) (HWO.out HE.out H0.out)
            rw [hF]
            exact ⟨_, _, rfl, fun r h => by cases h⟩
          clear h0
          go_wp2_with fail
          go_ret3
          exact ⟨_, rfl, HF.out, hbq6⟩
        · have H0 := Lib.hid h0
          refine (ratSign_nn u h0 w5).mono ?_
          rintro e w6 ⟨_, rfl, ⟨z, rfl, hz0, hz1⟩, hb6⟩
          have hbq6 : Below W.heap.size W w6 := hbq5.trans (hb6.mono hbq5.size)
          have HNX := Lib.hid (HWE.out HE.out H0.out)
          clear h0 hb6
          go_wp2_with fail
          go_roundw
          case rel => exact ⟨i + 1, lo, hi, by go_num, by omega, rfl, rfl, HNX, HSZ, hbq6⟩
          case measure => simp [RowKit.intOf]; omega
      · have hd0 : u - v ≠ 0 := fun e => hE (by grind)
        have HZS : Hid (Sz (24 * m + 16) (u / (u - v))) := (HZU.out.div HZD.out (by omega)).mono (by omega)
        refine (ratDiv_any u (u - v) (16 * m + 11) (by omega) (by omega) (HZU.out.mono (by omega)) HZD.out hd0 w4 hgq).mono ?_
        rintro e w5 ⟨_, rfl, rfl, hb5⟩
        have hbq5 : Below W.heap.size W w5 := hbq.trans (hb5.mono hbq.size)
        have hgq5 := hg.below (hB.trans (hbq5.mono hB.size))
        clear hb5 hbq hgq hd0
        by_cases hL : u < v
        · have HNX := Lib.hid (HWL.out hL)
          have HC : Hid (∀ w, Good w → _) := fun w hg => ratCmp_lt u v (8 * m + 5) (by omega) (by omega) HZU.out HZV.out hL w hg
          clear hE hL
          generalize u / (u - v) = s at *
          go_wp2_with fail
          refine (HC.out w5 hgq5).mono ?_
          rintro e w6 ⟨_, rfl, rfl, hb6⟩
          have hbq6 : Below W.heap.size W w6 := hbq5.trans (hb6.mono hbq5.size)
          have hgq6 := hg.below (hB.trans (hbq6.mono hB.size))
          clear hb6
          go_wp2_with fail
          refine (ratMax_any lo s (24 * m + 16) (by omega) (by omega) HSZ.out.1 HZS.out w6 hgq6).mono ?_
          rintro e w7 ⟨_, rfl, rfl, hb7⟩
          have hbq7 : Below W.heap.size W w7 := hbq6.trans (hb7.mono hbq6.size)
          clear hb7
          go_wp2_with fail
          go_roundw
          case rel => exact ⟨i + 1, maxQ lo s, hi, by go_num, by omega, rfl, rfl, HNX, ⟨maxQ_Sz HSZ.out.1 HZS.out, HSZ.out.2⟩, hbq7⟩
          case measure => simp [RowKit.intOf]; omega
        · have hG : v < u := Rat.lt_of_le_of_ne (Rat.not_lt.1 hL) (fun e => hE e.symm)
          have HNX := Lib.hid (HWG.out hG)
          have HC : Hid (∀ w, Good w → _) := fun w hg => ratCmp_nlt u v (8 * m + 5) (by omega) (by omega) HZU.out HZV.out hL w hg
          clear hE hL hG
          generalize u / (u - v) = s at *
          go_wp2_with fail
          refine (HC.out w5 hgq5).mono ?_
          rintro e w6 ⟨_, rfl, ⟨z, rfl, hz0, hz1⟩, hb6⟩
          have hbq6 : Below W.heap.size W w6 := hbq5.trans (hb6.mono hbq5.size)
          have hgq6 := hg.below (hB.trans (hbq6.mono hB.size))
          clear hb6
          go_wp2_with fail
          refine (ratMin_any hi s (24 * m + 16) (by omega) (by omega) HSZ.out.2 HZS.out w6 hgq6).mono ?_
          rintro e w7 ⟨_, rfl, rfl, hb7⟩
          have hbq7 : Below W.heap.size W w7 := hbq6.trans (hb7.mono hbq6.size)
          clear hb7
          go_wp2_with fail
          go_roundw
          case rel => exact ⟨i + 1, lo, minQ hi s, by go_num, by omega, rfl, rfl, HNX, ⟨HSZ.out.1, minQ_Sz HSZ.out.2 HZS.out⟩, hbq7⟩
          case measure => simp [RowKit.intOf]; omega
    · have HJ : Hid (i = 3) := by unfold Hid; omega
      have hige : (3 : Int) ≤ (i : Int) := by omega
      have HFL : Hid (Ff = if lo < hi then some (lo, hi) else none) := HFI.out (lo, hi) (by rw [← HJ.out]; exact HST.out)
      have hgr := hg.below hbW
      have HSZ2 : Hid (Sz 200 lo ∧ Sz 200 hi) := ⟨HSZ.out.1.mono (by omega), HSZ.out.2.mono (by omega)⟩
      clear HCO b3r b4r b5r HFI HNO
      go_wp2_with fail
      by_cases hL : lo < hi
      · have HL := Lib.hid hL
        refine (ratCmp_lt lo hi (24 * m + 16) (by omega) (by omega) HSZ.out.1 HSZ.out.2 hL wr hgr).mono ?_
        rintro e w5 ⟨_, rfl, rfl, hb5⟩
        have HF : Hid (WithinP Ff (.tuple #[.string (RS lo), .string (RS hi), .bool true])) := by
          rw [HFL.out, if_pos HL.out]
          exact ⟨_, _, rfl, fun r h => by cases h; exact ⟨rfl, rfl, HSZ2.out.1, HSZ2.out.2, HL.out⟩⟩
        clear hL
        go_wp2_with fail
        go_ret3
        exact ⟨_, rfl, HF.out, hbW.trans (hb5.mono hbW.size)⟩
      · have HL := Lib.hid hL
        refine (ratCmp_nlt lo hi (24 * m + 16) (by omega) (by omega) HSZ.out.1 HSZ.out.2 hL wr hgr).mono ?_
        rintro e w5 ⟨_, rfl, ⟨z, rfl, hz0, hz1⟩, hb5⟩
        have HF : Hid (WithinP Ff (.tuple #[.string (RS lo), .string (RS hi), .bool false])) := by
          rw [HFL.out, if_neg HL.out]
          exact ⟨_, _, rfl, fun r h => by cases h⟩
        have hzd : decide (z < 0) = false := by simp; exact hz0
        clear hL
        go_wp2_with fail
        go_ret3
        exact ⟨_, rfl, HF.out, hbW.trans (hb5.mono hbW.size)⟩

end Go.Proofs.YtdhcliekejiegaaGreatDoor
