/- The walk over field.cut. -/
import Derived.Test.YtjfjkiibmfgplaaGreatDoorE2
import Derived.Deep.RegionHeld3
import Derived.Deep.DeepCutAuto
namespace Go.Proofs.YtjfjkiibmfgplaaGreatDoor
open Go.RowKit Go.Lib

theorem ownsRow_base {w : World} {b b' e s n : Nat} {v : Value} {xs : List Value} (h : w.ownsRow b e s v n xs) (hb : b' ≤ b) : w.ownsRow b' e s v n xs := by
  obtain ⟨h1, h2⟩ := h
  refine ⟨h1, ?_⟩
  rcases h2 with h2 | ⟨g, cap, cur, hv, hg, hr⟩
  · exact .inl h2
  · exact .inr ⟨g, cap, cur, hv, Nat.le_trans hb hg, hr⟩
theorem owns_apart {w : World} {b1 b2 e1 e2 s1 s2 n1 n2 : Nat} {v1 v2 : Value} {x1 x2 : List Value} (h1 : w.ownsRow b1 e1 s1 v1 n1 x1) (h2 : w.ownsRow b2 e2 s2 v2 n2 x2) (hne : e1 ≠ e2) : v1.ownBlock = none ∨ v1.ownBlock ≠ v2.ownBlock := by
  rcases h1.2 with ⟨rfl, _⟩ | ⟨g, cap, cur, rfl, _, hg, _⟩
  · exact .inl rfl
  · refine .inr fun e => ?_
    rcases h2.2 with ⟨rfl, _⟩ | ⟨g', cap', cur', rfl, _, hg', _⟩
    · simp [Value.ownBlock] at e
    · simp [Value.ownBlock] at e
      subst e
      rw [hg] at hg'
      injection hg' with h
      injection h with _ h
      exact hne h
theorem owns_boxN {w : World} {b1 e1 s1 n1 b t : Nat} {v1 : Value} {x1 l : List Value} (h1 : w.ownsRow b1 e1 s1 v1 n1 x1) (h2 : BoxN w b t l) (hne : e1 ≠ t) : some b ≠ v1.ownBlock := by
  rcases h1.2 with ⟨rfl, _⟩ | ⟨g, cap, cur, rfl, _, hg, _⟩
  · intro e; simp [Value.ownBlock] at e
  · intro e
    simp [Value.ownBlock] at e
    subst e
    rw [show w.heap[b]? = _ from h2] at hg
    injection hg with h
    injection h with _ h
    exact hne h.symm

set_option maxHeartbeats 4000000 in
set_option maxRecDepth 100000 in
theorem fcut_any (c0 c1 c2 : Cor) (z : Rat) (k : Nat) (hk : 0 < k) (hk2 : k ≤ 300) (h0 : SzP k c0.1 ∧ Sz k c0.2) (h1 : SzP k c1.1 ∧ Sz k c1.2) (h2 : SzP k c2.1 ∧ Sz k c2.2) (hz : Sz k z) (w : World) (hg : Good w) :
    Calls Tryz.prog 79 #[.agg #[.string (RS c0.1.1), .string (RS c0.1.2), .string (RS c0.2), .string (RS c1.1.1), .string (RS c1.1.2), .string (RS c1.2), .string (RS c2.1.1), .string (RS c2.1.2), .string (RS c2.2)], .string (RS z)] w (Ret (fun r w' => w'.ownsRow w.heap.size 131 3 r (cutL c0 c1 c2 z).length (cellsC (cutL c0 c1 c2 z)) ∧ (cutL c0 c1 c2 z = [] → r = .slice none 0 0)) w) := by
  have HZ := Lib.hid hz
  obtain ⟨s00, hs00⟩ : ∃ s, s = RS c0.1.1 := ⟨_, rfl⟩
  obtain ⟨s01, hs01⟩ : ∃ s, s = RS c0.1.2 := ⟨_, rfl⟩
  obtain ⟨s02, hs02⟩ : ∃ s, s = RS c0.2 := ⟨_, rfl⟩
  obtain ⟨s10, hs10⟩ : ∃ s, s = RS c1.1.1 := ⟨_, rfl⟩
  obtain ⟨s11, hs11⟩ : ∃ s, s = RS c1.1.2 := ⟨_, rfl⟩
  obtain ⟨s12, hs12⟩ : ∃ s, s = RS c1.2 := ⟨_, rfl⟩
  obtain ⟨s20, hs20⟩ : ∃ s, s = RS c2.1.1 := ⟨_, rfl⟩
  obtain ⟨s21, hs21⟩ : ∃ s, s = RS c2.1.2 := ⟨_, rfl⟩
  obtain ⟨s22, hs22⟩ : ∃ s, s = RS c2.2 := ⟨_, rfl⟩
  rw [← hs00, ← hs01, ← hs02, ← hs10, ← hs11, ← hs12, ← hs20, ← hs21, ← hs22]
  have HCO : Hid (∀ i : Nat, i < 3 → ∃ (A B : Cor) (j : Nat), A = corA c0 c1 c2 i ∧ B = corB c0 c1 c2 i ∧ ((i : Int) + 1).tmod 3 = (j : Int) ∧ j < 3 ∧ (SzP k A.1 ∧ Sz k A.2) ∧ (SzP k B.1 ∧ Sz k B.2) ∧
      (∀ w, (Instr.index 132 (.agg #[.string s00, .string s01, .string s02, .string s10, .string s11, .string s12, .string s20, .string s21, .string s22]) (.int .i64 (i : Int))).run Tryz.prog w = .ok (.agg #[.string (RS A.1.1), .string (RS A.1.2), .string (RS A.2)]) w) ∧
      (∀ (w : World) (b : Nat), BoxN w b 132 [.string s00, .string s01, .string s02, .string s10, .string s11, .string s12, .string s20, .string s21, .string s22] → w.cell? ⟨b, j * 3, none⟩ = some (.string (RS B.1.1)) ∧ w.cell? ⟨b, j * 3 + 1, none⟩ = some (.string (RS B.1.2)) ∧ w.cell? ⟨b, j * 3 + 2, none⟩ = some (.string (RS B.2)))) := fun i hi => by
    subst hs00 hs01 hs02 hs10 hs11 hs12 hs20 hs21 hs22
    obtain rfl | rfl | rfl : i = 0 ∨ i = 1 ∨ i = 2 := by omega
    · exact ⟨c0, c1, 1, rfl, rfl, rfl, by decide, h0, h1, idx_C0 _ _ _ _ _ _ _ _ _, fun w b h => ⟨h.cell 3 rfl, h.cell 4 rfl, h.cell 5 rfl⟩⟩
    · exact ⟨c1, c2, 2, rfl, rfl, rfl, by decide, h1, h2, idx_C1 _ _ _ _ _ _ _ _ _, fun w b h => ⟨h.cell 6 rfl, h.cell 7 rfl, h.cell 8 rfl⟩⟩
    · exact ⟨c2, c0, 0, rfl, rfl, rfl, by decide, h2, h0, idx_C2 _ _ _ _ _ _ _ _ _, fun w b h => ⟨h.cell 0 rfl, h.cell 1 rfl, h.cell 2 rfl⟩⟩
  clear hs00 hs01 hs02 hs10 hs11 hs12 hs20 hs21 hs22 h0 h1 h2 hz
  obtain ⟨i0, hi, hzz0, hzz1, hzz2⟩ := info_parts info_corner
  go_enter Tryz.func79, Tryz.ntmps79
  go_wp2_with fail
  obtain ⟨W, hW⟩ : ∃ W, W = w.alloc (.cells #[.string s00, .string s01, .string s02, .string s10, .string s11, .string s12, .string s20, .string s21, .string s22] 132) := ⟨_, rfl⟩
  have hB : Below w.heap.size w W := by rw [hW]; exact (Below.refl _ _).alloc (Nat.le_refl _) _
  have e2 : BoxN W w.heap.size 132 [.string s00, .string s01, .string s02, .string s10, .string s11, .string s12, .string s20, .string s21, .string s22] := by rw [hW]; exact BoxN.new _ _ _ _ rfl
  rw [← hW]
  clear hW
  have hzW := e2.lt
  go_loopw [5, 6, 16] (fun t5 t6 t16 wr => ∃ (i n : Nat) (b : Bool), t16 = .int .i64 i ∧ t6 = .bool b ∧ i ≤ 3 ∧ n ≤ 2 * i ∧ Hid ((cutTo c0 c1 c2 z i).length = n) ∧ Hid (b = someTo c0 c1 c2 z i) ∧ wr.ownsRow W.heap.size 131 3 t5 n (cellsC (cutTo c0 c1 c2 z i)) ∧ Below W.heap.size W wr) (fun _ _ t16 _ => 3 - (RowKit.intOf t16).toNat)
  case atStart => exact ⟨0, 0, false, rfl, rfl, Nat.zero_le _, Nat.le_refl _, rfl, rfl, World.ownsRow_nil _ _ _ _, Below.refl _ _⟩
  case round =>
    obtain ⟨i, n, b, rfl, rfl, hin, hni, HLN, HSM, hown, hbr⟩ := hrel
    obtain ⟨p5, c5, rfl⟩ := ownsRow_shape hown
    have hzr := hbr.size
    have HOB0 : ∀ j, (Value.slice p5 n c5).ownBlock = some j → W.heap.size ≤ j ∧ j < wr.heap.size := fun j hj => hown.lt j hj
    rcases Nat.lt_or_ge i 3 with h | h
    · obtain ⟨A, B, j, hA, hBj, hj, hj3, hsA, hsB, hix, hbx⟩ := HCO.out i h
      have HST : Hid (cutTo c0 c1 c2 z (i + 1) = cutTo c0 c1 c2 z i ++ cutS A B z) := by rw [hA, hBj]; rfl
      have HSS : Hid (someTo c0 c1 c2 z (i + 1) = (b || decide (0 < (A.2 - z).num.sign))) := by rw [hA, HSM.out]; rfl
      clear hA hBj
      have HSA := Lib.hid hsA
      have HSB := Lib.hid hsB
      have hzx : Sz (2 * k + 1) (A.2 - z) := (hsA.2.sub HZ.out).mono (by omega)
      have hzy : Sz (2 * k + 1) (B.2 - z) := (hsB.2.sub HZ.out).mono (by omega)
      have HX : Hid (∀ w, Good w → _) := fun w hg => ratSub_any A.2 z k hk (by omega) hsA.2 HZ.out w hg
      have HY : Hid (∀ w, Good w → _) := fun w hg => ratSub_any B.2 z k hk (by omega) hsB.2 HZ.out w hg
      obtain ⟨x, hx⟩ : ∃ x, x = A.2 - z := ⟨_, rfl⟩
      obtain ⟨y, hy⟩ : ∃ y, y = B.2 - z := ⟨_, rfl⟩
      rw [← hx] at hzx HX HSS
      rw [← hy] at hzy HY
      have HDV : Hid (x - y ≠ 0 → ∀ w, Good w → _) := fun hne w hg => ratDiv_any x (x - y) (4 * k + 3) (by omega) (by omega) (hzx.mono (by omega)) ((hzx.sub hzy).mono (by omega)) hne w hg
      have HDS : Hid (∀ w, Good w → _) := fun w hg => ratSub_any x y (2 * k + 1) (by omega) (by omega) hzx hzy w hg
      have HQZ : Hid (x - y ≠ 0 → Sz (8 * k + 6) (x / (x - y))) := fun hne => (hzx.div ((hzx.sub hzy).mono (Nat.le_refl _)) (by omega)).mono (by omega)
      have HTX : Hid (x - y ≠ 0 → ∀ w, Good w → _) := fun hne w hg => ftoward_any A.1.1 B.1.1 (x / (x - y)) (8 * k + 6) (by omega) (by omega) (hsA.1.1.mono (by omega)) (hsB.1.1.mono (by omega)) (HQZ.out hne) w hg
      have HTY : Hid (x - y ≠ 0 → ∀ w, Good w → _) := fun hne w hg => ftoward_any A.1.2 B.1.2 (x / (x - y)) (8 * k + 6) (by omega) (by omega) (hsA.1.2.mono (by omega)) (hsB.1.2.mono (by omega)) (HQZ.out hne) w hg
      have HC1 : Hid (cutS A B z = (if 0 ≤ x.num.sign then [A] else []) ++ (if x.num.sign * y.num.sign < 0 then [crossK A B z] else [])) := by rw [hx, hy]; rfl
      have HCK : Hid (crossK A B z = ((towQ A.1.1 B.1.1 (x / (x - y)), towQ A.1.2 B.1.2 (x / (x - y))), z)) := by rw [hx, hy]; rfl
      have HGX : Hid (∀ w, _) := fun w => ratSign_any x w
      have HGY : Hid (∀ w, _) := fun w => ratSign_any y w
      have HNE : Hid (x.num.sign * y.num.sign < 0 → x - y ≠ 0) := fun hlt e => by
        have e2 : x = y := by grind
        rw [e2] at hlt
        rcases sign3 y with e | e | e <;> rw [e] at hlt <;> exact absurd hlt (by decide)
      have HZT := Lib.hid (str_zero_test x)
      have HSX3 := Lib.hid (sign3 x)
      have HSY3 := Lib.hid (sign3 y)
      generalize x.num.sign = sx at *
      generalize y.num.sign = sy at *
      clear hzx hzy hsA hsB hx hy
      have e2r := e2.below hbr e2.lt
      have hbW : Below w.heap.size w wr := hB.trans (hbr.mono hB.size)
      have hj3z : (j : Int) < 3 := by omega
      have hi3z : (i : Int) < 3 := by omega
      clear HCO
      go_upto_region 6 with fail
      obtain ⟨W1, hW1⟩ : ∃ X, X = wr.alloc (.cells #[.string (RS A.1.1), .string (RS A.1.2), .string (RS A.2)] 131) := ⟨_, rfl⟩
      have hb1 : Below wr.heap.size wr W1 := by rw [hW1]; exact (Below.refl _ _).alloc (Nat.le_refl _) _
      have e8 : BoxN W1 wr.heap.size 131 [.string (RS A.1.1), .string (RS A.1.2), .string (RS A.2)] := by rw [hW1]; exact BoxN.new _ _ _ _ rfl
      rw [← hW1]
      clear hW1
      have HZ1 := Lib.hid hb1.size
      obtain ⟨k0, k1, k2⟩ := hbx _ _ (e2r.below hb1 e2r.lt)
      go_upto_region 7 with fail
      obtain ⟨W2, hW2⟩ : ∃ X, X = W1.alloc (.cells #[.string (RS B.1.1), .string (RS B.1.2), .string (RS B.2)] 131) := ⟨_, rfl⟩
      have hb2 : Below W1.heap.size W1 W2 := by rw [hW2]; exact (Below.refl _ _).alloc (Nat.le_refl _) _
      have e9 : BoxN W2 W1.heap.size 131 [.string (RS B.1.1), .string (RS B.1.2), .string (RS B.2)] := by rw [hW2]; exact BoxN.new _ _ _ _ rfl
      rw [← hW2]
      clear hW2 k0 k1 k2 hbx hix
      have g8 := e8.below hb2 e8.lt
      have hbr2 : Below wr.heap.size wr W2 := hb1.trans (hb2.mono hb1.size)
      have hbW2 : Below w.heap.size w W2 := hbW.trans (hbr2.mono hbW.size)
      have x0 := g8.cell 2 rfl
      have y0 := e9.cell 2 rfl
      have hz8 := g8.lt
      have hz9 := e9.lt
      have hgd : Good W2.drew := (hg.below hbW2).drewN 1
      clear hb1 hb2 e8
      go_region_held3 (fun w' => w'.cell? ⟨wr.heap.size, 2, none⟩ = some (.string (RS A.2)) ∧ w'.cell? ⟨W1.heap.size, 2, none⟩ = some (.string (RS B.2)))
        (first | exact ⟨x0, y0⟩ | exact ⟨p_1_0, p_1_1⟩ | exact ⟨p_2_0, p_2_1⟩)
        (first
        | (go_at_call 57; refine (HY.out _ pg1).mono ?_; rintro e pw2 ⟨_, rfl, rfl, pb2⟩
           have p_2_0 := (pb2.cell (p := ⟨wr.heap.size, 2, none⟩) (by show wr.heap.size < pw1.heap.size; omega)).trans p_1_0
           have p_2_1 := (pb2.cell (p := ⟨W1.heap.size, 2, none⟩) (by show W1.heap.size < pw1.heap.size; omega)).trans p_1_1
           have ps2 : pw1.heap.size ≤ pw2.heap.size := pb2.size
           have pg2 : Good pw2 := pg1.below pb2)
        | (go_at_call 57; refine (HX.out _ hgd).mono ?_; rintro e pw1 ⟨_, rfl, rfl, pb1⟩
           have p_1_0 := (pb1.cell (p := ⟨wr.heap.size, 2, none⟩) (by show wr.heap.size < W2.heap.size; omega)).trans x0
           have p_1_1 := (pb1.cell (p := ⟨W1.heap.size, 2, none⟩) (by show W1.heap.size < W2.heap.size; omega)).trans y0
           have ps1 : W2.heap.size ≤ pw1.heap.size := pb1.size
           have pg1 : Good pw1 := hgd.below pb1))
      have pB : Below W2.heap.size W2 pw2 := (((below_drewN W2 1).trans (pb1.mono (by show W2.heap.size ≤ W2.heap.size; omega))).trans (pb2.mono (by show W2.heap.size ≤ pw1.heap.size; omega)))
      have hown2 := World.ownsRow.belowAll hown (hbr2.trans (pB.mono hbr2.size))
      have hbr3 : Below wr.heap.size wr pw2 := hbr2.trans (pB.mono hbr2.size)
      have h8 := g8.below pB g8.lt
      have h9 := e9.below pB e9.lt
      have hz2 := pB.size
      clear pB pb1 pb2 ps1 ps2 pg1 pg2 p_1_0 p_1_1 p_2_0 p_2_1 x0 y0 hown hgd hbr2 hbW2 g8 e9 e2r
      go_upto_region 9 with fail
      refine (HGX.out pw2).mono ?_
      rintro e w3 ⟨_, rfl, rfl, nd, rfl⟩
      go_upto_if 35 with fail
      obtain ⟨w3, hw3⟩ : ∃ X, X = pw2.drewN nd := ⟨_, rfl⟩
      have hd3 : Below pw2.heap.size pw2 w3 := by rw [hw3]; exact below_drewN pw2 nd
      have hz3 : pw2.heap.size = w3.heap.size := by rw [hw3]; rfl
      rw [← hw3]
      clear hw3
      have hzW1 : wr.heap.size ≤ W1.heap.size := HZ1.out
      have h83 := h8.below hd3 h8.lt
      have h93 := h9.below hd3 h9.lt
      have hown3 := World.ownsRow.belowAll hown2 hd3
      have hbr3' : Below wr.heap.size wr w3 := hbr3.trans (hd3.mono hbr3.size)
      have HOB : Hid (∀ j, (Value.slice p5 n c5).ownBlock = some j → W.heap.size ≤ j ∧ j < wr.heap.size) := HOB0
      generalize cutTo c0 c1 c2 z i = L at *
      obtain ⟨L1, hL1⟩ : ∃ l, l = L ++ (if 0 ≤ sx then [A] else []) := ⟨_, rfl⟩
      have HL1 := Lib.hid hL1
      clear hL1 h8 h9 hown2 hbr3 hd3
      go_cut [5, 6] (fun s5 s6 wx => ∃ (n' : Nat) (b' : Bool), s6 = .bool b' ∧ Hid (b' = (b || decide (0 < sx))) ∧ n' ≤ n + 1 ∧ Hid (L1.length = n') ∧ wx.ownsRow W.heap.size 131 3 s5 n' (cellsC L1) ∧ Below W.heap.size W wx ∧ w3.heap.size ≤ wx.heap.size ∧ BoxN wx wr.heap.size 131 [.string (RS A.1.1), .string (RS A.1.2), .string (RS A.2)] ∧ BoxN wx W1.heap.size 131 [.string (RS B.1.1), .string (RS B.1.2), .string (RS B.2)])
      case first =>
        rcases Int.lt_or_le sx 0 with hs | hs
        · have HE : Hid (L1 = L) := by unfold Hid; rw [HL1.out, if_neg (by omega), List.append_nil]
          have HBB : Hid (b = (b || decide (0 < sx))) := by unfold Hid; rw [decide_eq_false (by omega), Bool.or_false]
          go_wp2_with fail
          go_meet
          exact ⟨n, b, rfl, HBB, by omega, by unfold Hid; rw [HE.out]; exact HLN.out, by rw [HE.out]; exact hown3, hbr.trans (hbr3'.mono hbr.size), Nat.le_refl _, h83, h93⟩
        · have HE : Hid (L1 = L ++ [A]) := by unfold Hid; rw [HL1.out, if_pos hs]
          have HLE : Hid (L1.length = n + 1) := by unfold Hid; rw [HE.out, List.length_append, HLN.out]; rfl
          have HBE : Hid (cellsC L1 = cellsC L ++ [.string (RS A.1.1), .string (RS A.1.2), .string (RS A.2)]) := by unfold Hid; rw [HE.out, cellsC_snoc]
          obtain ⟨q, hq⟩ : ∃ q, q = decide (0 < sx) := ⟨_, rfl⟩
          have a0 := h83.cell 0 rfl
          have a1 := h83.cell 1 rfl
          have a2 := h83.cell 2 rfl
          have t1 : ((RS x).toList == [48]) = !q := by
            rw [hq, Bool.eq_iff_iff, beq_iff_eq, HZT.out]
            clear hq
            rcases Int.lt_or_le 0 sx with h1 | h1
            · rw [decide_eq_true h1]; simp; omega
            · rw [decide_eq_false (by omega)]; simp; omega
          have HQ := Lib.hid hq
          have hn4 : n ≤ 4 := by omega
          have hzB : W.heap.size ≤ w3.heap.size := by have := h83.lt; omega
          have hl8 := h83.lt
          have hl9 := h93.lt
          have hw1 : wr.heap.size ≤ W1.heap.size := by omega
          clear hq
          go_wp2_with (at_builtin; refine wpList_append_own _ rfl _ _ 134 rfl W.heap.size 131 i0 (.agg #[.string ⟨#[]⟩, .string ⟨#[]⟩, .string ⟨#[]⟩]) 3 48 Tryz.underlying134 hi hzz0 hzz1 hzz2 rfl (by decide) _ _ _ rfl (hown3.alloc _) ⟨w3.heap.size, 0, none⟩ 1 1 [.string (RS A.1.1), .string (RS A.1.2), .string (RS A.2)] rfl rfl (cell_three _ _ _ _ _) (three_str _ _ _) (by unfold maxLen; omega) (by omega) (by simp; omega) ?_
                       intro v4 w4 hown4 hgrow4 _
                       have hzw4 := hgrow4.size
                       have hbr4 : Below W.heap.size W w4 := ((hbr.trans (hbr3'.mono hbr.size)).alloc hzB _).grown hgrow4 (by simp; omega) (fun j hj => by have := (hown3.lt j hj).1; omega)
                       have h84 := (hgrow4.block wr.heap.size (by simp; omega) (fun e => by have := (HOB.out _ e.symm).2; omega)).trans (h83.below ((Below.refl _ _).alloc (Nat.le_refl _) _) hl8)
                       have h94 := (hgrow4.block W1.heap.size (by simp; omega) (fun e => by have := (HOB.out _ e.symm).2; omega)).trans (h93.below ((Below.refl _ _).alloc (Nat.le_refl _) _) hl9)
                       clear hgrow4)
          all_goals
            have hbF4 : w3.heap.size ≤ w4.heap.size := by simp at hzw4; omega
            rw [← HBE.out] at hown4
            go_wp2_with fail
            go_meet
            first
              | exact ⟨n + 1, q, rfl, (by unfold Hid; first | rw [HQ.out, (‹b = false› : b = false)]; rfl | rw [HQ.out, Bool.eq_false_iff.2 (‹¬ b = true› : ¬ b = true)]; rfl), Nat.le_refl _, HLE, hown4, hbr4, hbF4, h84, h94⟩
              | exact ⟨n + 1, true, rfl, (by unfold Hid; rw [(‹b = true› : b = true)]; rfl), Nat.le_refl _, HLE, hown4, hbr4, hbF4, h84, h94⟩
      case rest =>
        obtain ⟨n1, b1, rfl, HB1, hn1, HLE1, hownc, hbrc, hzc, h8c, h9c⟩ := hcut
        obtain ⟨pc, cc, rfl⟩ := ownsRow_shape hownc
        obtain ⟨cr, hcr⟩ : ∃ cr, cr = decide (sx * sy < 0) := ⟨_, rfl⟩
        have HCR := Lib.hid hcr
        have hbWc : Below w.heap.size w wc := hB.trans (hbrc.mono hB.size)
        clear hown3 h83 h93 HOB hbr3' hbr HZT e2 hcr
        go_upto_region 11 with fail
        go_cut [50] (fun s50 wx => s50 = .bool cr ∧ ∃ nd, wx = wc.drewN nd)
        case first =>
          clear HL1 hownc hbrc hzc h8c h9c hbWc HB1 hn1 HLE1 HC1 HCK HNE HDV HDS HQZ HTX HTY HX HY HSA HSB HST HSS HLN HSM hzW hzr hzW1 hz2 hz3 HZ1 hg hi hzz0 hzz1 hzz2 HZ hB
          go_wp2_with fail
          refine (HGX.out wc).mono ?_
          rintro e w5 ⟨_, rfl, rfl, nd5, rfl⟩
          go_wp2_with fail
          refine (HGY.out _).mono ?_
          rintro e w6 ⟨_, rfl, rfl, nd6, rfl⟩
          rcases HSX3.out with rfl | rfl | rfl <;> rcases HSY3.out with rfl | rfl | rfl
          all_goals
            go_wp2_with fail
            go_meet
            exact ⟨by rw [HCR.out]; rfl, _, rfl⟩
        case rest =>
          obtain ⟨rfl, nd6, rfl⟩ := hcut
          obtain ⟨w6, hw6⟩ : ∃ X, X = wc.drewN nd6 := ⟨_, rfl⟩
          have hd6 : Below wc.heap.size wc w6 := by rw [hw6]; exact below_drewN wc nd6
          have hz6 : wc.heap.size = w6.heap.size := by rw [hw6]; rfl
          rw [← hw6]
          clear hw6
          have hown6 := World.ownsRow.belowAll hownc hd6
          have hbr6 : Below W.heap.size W w6 := hbrc.trans (hd6.mono hbrc.size)
          have hbW6 : Below w.heap.size w w6 := hbWc.trans (hd6.mono hbWc.size)
          have h86 := h8c.below hd6 h8c.lt
          have h96 := h9c.below hd6 h9c.lt
          clear hownc hbrc hbWc h8c h9c hd6
          cases cr
          · have HEL : Hid (cutTo c0 c1 c2 z (i + 1) = L1) := by
              unfold Hid
              have hn : ¬ sx * sy < 0 := fun e => by have := HCR.out; rw [decide_eq_true e] at this; cases this
              rw [HST.out, HC1.out, HL1.out, if_neg hn, List.append_nil]
            have HLN' : Hid ((cutTo c0 c1 c2 z (i + 1)).length = n1) := by unfold Hid; rw [HEL.out, HLE1.out]
            have HSM' : Hid (b1 = someTo c0 c1 c2 z (i + 1)) := by unfold Hid; rw [HSS.out, HB1.out]
            rw [← HEL.out] at hown6
            go_wp2_with fail
            go_roundw
            case rel => exact ⟨i + 1, n1, b1, by go_num, rfl, by omega, by omega, HLN', HSM', hown6, hbr6⟩
            case measure => simp [RowKit.intOf]; omega
          · have hne := HNE.out (of_decide_eq_true HCR.out.symm)
            go_wp2_with fail
            refine (HDS.out w6 (hg.below hbW6)).mono ?_
            rintro e w7 ⟨_, rfl, rfl, hb7⟩
            go_wp2_with fail
            have hbW7 := hbW6.trans (hb7.mono hbW6.size)
            refine (HDV.out hne w7 (hg.below hbW7)).mono ?_
            rintro e w8 ⟨_, rfl, rfl, hb8⟩
            have hbb : Below w6.heap.size w6 w8 := hb7.trans (hb8.mono hb7.size)
            have hbW8 : Below w.heap.size w w8 := hbW6.trans (hbb.mono hbW6.size)
            have h88 := h86.below hbb h86.lt
            have h98 := h96.below hbb h96.lt
            have hown8 := World.ownsRow.belowAll hown6 hbb
            have hbr8 : Below W.heap.size W w8 := hbr6.trans (hbb.mono hbr6.size)
            clear hb7 hb8 hbW7 h86 h96 hown6 hbr6
            go_upto_region 13 with fail
            have HEL : Hid (cutTo c0 c1 c2 z (i + 1) = L1 ++ [((towQ A.1.1 B.1.1 (x / (x - y)), towQ A.1.2 B.1.2 (x / (x - y))), z)]) := by
              unfold Hid
              rw [HST.out, HC1.out, HL1.out, if_pos (of_decide_eq_true HCR.out.symm), HCK.out, List.append_assoc]
            have HLE8 : Hid ((cutTo c0 c1 c2 z (i + 1)).length = n1 + 1) := by unfold Hid; rw [HEL.out, List.length_append, HLE1.out]; rfl
            have HBE8 : Hid (cellsC (cutTo c0 c1 c2 z (i + 1)) = cellsC L1 ++ [.string (RS (towQ A.1.1 B.1.1 (x / (x - y)))), .string (RS (towQ A.1.2 B.1.2 (x / (x - y)))), .string (RS z)]) := by unfold Hid; rw [HEL.out, cellsC_snoc]
            have HSM' : Hid (b1 = someTo c0 c1 c2 z (i + 1)) := by unfold Hid; rw [HSS.out, HB1.out]
            have HTX' : Hid (∀ w, Good w → _) := fun w hg => HTX.out hne w hg
            have HTY' : Hid (∀ w, Good w → _) := fun w hg => HTY.out hne w hg
            clear HDV HDS HQZ HTX HTY HC1 HCK HST HSS HB1 HL1 HNE HCR HX HY HGX HGY HSX3 HSY3 HSA HSB HEL
            generalize RS (towQ A.1.1 B.1.1 (x / (x - y))) = px at *
            generalize RS (towQ A.1.2 B.1.2 (x / (x - y))) = py at *
            generalize RS (x / (x - y)) = qs at *
            clear hne
            have hl8 := h88.lt
            have hl9 := h98.lt
            go_cut [14] (fun s14 wx => ∃ b14 : Nat, s14 = .pointer (some ⟨b14, 0, none⟩) ∧ w8.heap.size ≤ b14 ∧ BoxN wx b14 54 [.string px, .string py] ∧ Below w8.heap.size w8 wx)
            case first =>
              have HF : Hid (∀ w', Below w8.heap.size w8 w' → w'.cell? ⟨wr.heap.size, 0, none⟩ = some (.string (RS A.1.1)) ∧ w'.cell? ⟨wr.heap.size, 1, none⟩ = some (.string (RS A.1.2)) ∧ w'.cell? ⟨W1.heap.size, 0, none⟩ = some (.string (RS B.1.1)) ∧ w'.cell? ⟨W1.heap.size, 1, none⟩ = some (.string (RS B.1.2))) := fun w' hb => by
                have y1 := h88.below hb h88.lt
                have y2 := h98.below hb h98.lt
                exact ⟨y1.cell 0 rfl, y1.cell 1 rfl, y2.cell 0 rfl, y2.cell 1 rfl⟩
              have HGD : Hid (∀ w', Below w8.heap.size w8 w' → Good w') := fun w' hb => (hg.below hbW8).below hb
              have b0 : Below w8.heap.size w8 w8.drew := below_drewN w8 1
              have hZZ : ∀ w' : World, BoxN (w'.alloc (.cells #[.string ⟨#[]⟩, .string ⟨#[]⟩] 54)) w'.heap.size 54 [.string ⟨#[]⟩, .string ⟨#[]⟩] := fun w' => BoxN.new _ _ _ _ rfl
              have hAA : ∀ (w' : World) (o : Obj), Below w8.heap.size w8 w' → Below w8.heap.size w8 (w'.alloc o) := fun w' o hb => hb.alloc hb.size _
              have HSC : Hid (∀ (w' : World) (b i : Nat) (v : Value), w8.heap.size ≤ b → Below w8.heap.size w8 w' → Below w8.heap.size w8 (w'.setCell ⟨b, i, none⟩ v)) := fun w' b i v hb h => h.setCell (p := ⟨b, i, none⟩) hb v
              have HTR : Hid (∀ w' w'', Below w8.heap.size w8 w' → Below w'.heap.size w' w'' → Below w8.heap.size w8 w'') := fun w' w'' h1 h2 => h1.trans (h2.mono h1.size)
              have HZZ := Lib.hid hZZ
              have HAA := Lib.hid hAA
              have h0a := (hAA _ (.cells #[.string ⟨#[]⟩, .string ⟨#[]⟩] 54) (Below.refl _ w8)).drew
              have g0 := HGD.out _ b0
              have g0a := HGD.out _ h0a
              clear hZZ hAA hown8 hbr8 hbW8 h88 h98 hbb
              go_region_held3 (fun w' => w'.cell? ⟨wr.heap.size, 0, none⟩ = some (.string (RS A.1.1)) ∧ w'.cell? ⟨wr.heap.size, 1, none⟩ = some (.string (RS A.1.2)) ∧ w'.cell? ⟨W1.heap.size, 0, none⟩ = some (.string (RS B.1.1)) ∧ w'.cell? ⟨W1.heap.size, 1, none⟩ = some (.string (RS B.1.2)))
                ((refine HF.out _ ?_; first | with_reducible assumption | exact (HAA.out _ _ (by with_reducible assumption)).drew | exact HAA.out _ _ (by with_reducible assumption) | (iterate 2 (refine HSC.out _ _ _ _ (by omega) ?_)); with_reducible assumption))
                (first
                  | (go_at_call 131; (first | refine (HTY'.out _ g4).mono ?_ | refine (HTY'.out _ g4a).mono ?_); rintro e v5 ⟨_, rfl, rfl, hb5⟩
                     have h5 : Below w8.heap.size w8 v5 := by first | exact HTR.out _ _ h4 hb5 | exact HTR.out _ _ h4a hb5
                     have hs5 := h5.size
                     try have bz5 := bz4.below hb5 bz4.lt
                     try have bz5 := (HZZ.out v4).below hb5 (by simp)
                     try have q0 := bz5.cell 0 rfl
                     try have q1 := bz5.cell 1 rfl
                     try have e0 := bz5.frozen 0
                     try have e1 := bz5.frozen 1)
                  | (go_at_call 131; (first | refine (HTX'.out _ g0).mono ?_ | refine (HTX'.out _ g0a).mono ?_); rintro e v4 ⟨_, rfl, rfl, hb4⟩
                     have h4 : Below w8.heap.size w8 v4 := by first | exact HTR.out _ _ b0 hb4 | exact HTR.out _ _ h0a hb4
                     have h4a := HAA.out _ (.cells #[.string ⟨#[]⟩, .string ⟨#[]⟩] 54) h4
                     have g4 := HGD.out _ h4
                     have g4a := HGD.out _ h4a
                     have hs4 := h4.size
                     try have bz4 := (HZZ.out w8).drew.below hb4 (by simp)))
              · go_wp2_with fail
                go_meet
                exact ⟨_, rfl, hs5, BoxN.new _ _ _ _ rfl, HAA.out _ _ h5⟩
              · go_wp2_with fail
                go_meet
                exact ⟨_, rfl, hs4, (bz5.set 0 _).set 1 _, HSC.out _ _ _ _ hs4 (HSC.out _ _ _ _ hs4 h5)⟩
              · go_wp2_with fail
                go_meet
                exact ⟨_, rfl, Nat.le_refl _, (bz5.set 0 _).set 1 _, HSC.out _ _ _ _ (Nat.le_refl _) (HSC.out _ _ _ _ (Nat.le_refl _) h5)⟩
            case rest =>
              obtain ⟨b14, rfl, hb14, x14, hbx⟩ := hcut
              have hownx := World.ownsRow.belowAll hown8 hbx
              have hbrx : Below W.heap.size W wc := hbr8.trans (hbx.mono hbr8.size)
              have hzx := hbrx.size
              have k0 := x14.cell 0 rfl
              have k1 := x14.cell 1 rfl
              have hn4 : n1 ≤ 6 := by omega
              clear hbx hbr8 hown8 h88 h98 x14 hbb
              go_wp2_with (at_builtin; refine wpList_append_own _ rfl _ _ 134 rfl W.heap.size 131 i0 (.agg #[.string ⟨#[]⟩, .string ⟨#[]⟩, .string ⟨#[]⟩]) 3 48 Tryz.underlying134 hi hzz0 hzz1 hzz2 rfl (by decide) _ _ _ rfl (hownx.alloc _) ⟨wc.heap.size, 0, none⟩ 1 1 [.string px, .string py, .string (RS z)] rfl rfl (cell_three _ _ _ _ _) (three_str _ _ _) (by unfold maxLen; omega) (by omega) (by simp; omega) ?_
                           intro v9 w9 hown9 hgrow9 _
                           have hzw9 := hgrow9.size
                           have hbr9 : Below W.heap.size W w9 := (hbrx.alloc hzx _).grown hgrow9 (by simp; omega) (fun j hj => by have := (hownx.lt j hj).1; omega)
                           clear hgrow9)
              rw [← HBE8.out] at hown9
              go_wp2_with fail
              go_roundw
              case rel => exact ⟨i + 1, n1 + 1, b1, by go_num, rfl, by omega, by omega, HLE8, HSM', hown9, hbr9⟩
              case measure => simp [RowKit.intOf]; omega
    · obtain rfl : i = 3 := by omega
      have hbW : Below w.heap.size w wr := hB.trans (hbr.mono hB.size)
      cases b
      · have HE : Hid (cutL c0 c1 c2 z = []) := by unfold Hid cutL; rw [← HSM.out]; rfl
        go_wp2_with fail
        go_ret
        exact ⟨_, rfl, ⟨by rw [HE.out]; exact World.ownsRow_nil _ _ _ _, fun _ => rfl⟩, hbW⟩
      · have HE : Hid (cutL c0 c1 c2 z = cutTo c0 c1 c2 z 3) := by unfold Hid cutL; rw [← HSM.out]; rfl
        have HNE := Lib.hid (cutTo_ne c0 c1 c2 z 3 HSM.out.symm)
        have hrd : wr.ownsRow w.heap.size 131 3 (.slice p5 n c5) (cutTo c0 c1 c2 z 3).length (cellsC (cutTo c0 c1 c2 z 3)) := by rw [HLN.out]; exact ownsRow_base hown (by omega)
        go_wp2_with fail
        go_ret
        exact ⟨_, rfl, ⟨by rw [HE.out]; exact hrd, fun e => absurd (HE.out.symm.trans e) HNE.out⟩, hbW⟩

end Go.Proofs.YtjfjkiibmfgplaaGreatDoor
