/- The walk over mesh.clip. -/
import Derived.Test.YtjfjkiibmfgplaaGreatDoorY2
namespace Go.Proofs.YtjfjkiibmfgplaaGreatDoor
open Go.RowKit Go.Lib

set_option maxHeartbeats 8000000 in
set_option maxRecDepth 100000 in
theorem clip_any (a0 a1 a2 b0 b1 b2 : PtQ) (ha0 : SzP 2 a0) (ha1 : SzP 2 a1) (ha2 : SzP 2 a2) (hb0 : SzP 2 b0) (hb1 : SzP 2 b1) (hb2 : SzP 2 b2) (w : World) (hg : Good w) :
    Calls Tryz.prog 142 #[.agg #[.string (RS a0.1), .string (RS a0.2), .string (RS a1.1), .string (RS a1.2), .string (RS a2.1), .string (RS a2.2)], .agg #[.string (RS b0.1), .string (RS b0.2), .string (RS b1.1), .string (RS b1.2), .string (RS b2.1), .string (RS b2.2)]] w (Ret (fun r w' => RdP w' r (strP (clipN a0 a1 a2 b0 b1 b2 3))) w) := by
  obtain ⟨s00, hs00⟩ : ∃ s, s = RS b0.1 := ⟨_, rfl⟩
  obtain ⟨s01, hs01⟩ : ∃ s, s = RS b0.2 := ⟨_, rfl⟩
  obtain ⟨s10, hs10⟩ : ∃ s, s = RS b1.1 := ⟨_, rfl⟩
  obtain ⟨s11, hs11⟩ : ∃ s, s = RS b1.2 := ⟨_, rfl⟩
  obtain ⟨s20, hs20⟩ : ∃ s, s = RS b2.1 := ⟨_, rfl⟩
  obtain ⟨s21, hs21⟩ : ∃ s, s = RS b2.2 := ⟨_, rfl⟩
  rw [← hs00, ← hs01, ← hs10, ← hs11, ← hs20, ← hs21]
  have HCO : Hid (∀ i : Nat, i < 3 → ∃ (p q : PtQ) (j : Nat), p = sideA b0 b1 b2 i ∧ q = sideE b0 b1 b2 i ∧ ((i : Int) + 1).tmod 3 = (j : Int) ∧ j < 3 ∧ SzP 2 p ∧ SzP 2 q ∧
      (∀ (w : World) (b : Nat), BoxN w b 149 [.string s00, .string s01, .string s10, .string s11, .string s20, .string s21] → w.cell? ⟨b, i * 2, none⟩ = some (.string (RS p.1)) ∧ w.cell? ⟨b, i * 2 + 1, none⟩ = some (.string (RS p.2)) ∧ w.cell? ⟨b, j * 2, none⟩ = some (.string (RS q.1)) ∧ w.cell? ⟨b, j * 2 + 1, none⟩ = some (.string (RS q.2)))) := fun i hi => by
    subst hs00 hs01 hs10 hs11 hs20 hs21
    obtain rfl | rfl | rfl : i = 0 ∨ i = 1 ∨ i = 2 := by omega
    · exact ⟨b0, b1, 1, rfl, rfl, by decide, by decide, hb0, hb1, fun w b h => ⟨h.cell 0 rfl, h.cell 1 rfl, h.cell 2 rfl, h.cell 3 rfl⟩⟩
    · exact ⟨b1, b2, 2, rfl, rfl, by decide, by decide, hb1, hb2, fun w b h => ⟨h.cell 2 rfl, h.cell 3 rfl, h.cell 4 rfl, h.cell 5 rfl⟩⟩
    · exact ⟨b2, b0, 0, rfl, rfl, by decide, by decide, hb2, hb0, fun w b h => ⟨h.cell 4 rfl, h.cell 5 rfl, h.cell 0 rfl, h.cell 1 rfl⟩⟩
  have HSZ : Hid (∀ i, i < 3 → ∃ n, 0 < n ∧ n ≤ 702 ∧ ∀ c ∈ clipN a0 a1 a2 b0 b1 b2 i, SzP n c) := fun i hi => by
    refine ⟨szN i, ?_, ?_, clipN_Sz ha0 ha1 ha2 hb0 hb1 hb2 i⟩
    · obtain rfl | rfl | rfl : i = 0 ∨ i = 1 ∨ i = 2 := by omega
      all_goals decide
    · obtain rfl | rfl | rfl : i = 0 ∨ i = 1 ∨ i = 2 := by omega
      all_goals decide
  have HNL : Hid (∀ i, i ≤ 3 → (clipN a0 a1 a2 b0 b1 b2 i).length ≤ 24) := fun i hi => clipN_len a0 a1 a2 b0 b1 b2 i hi
  have HST : Hid (∀ i, clipN a0 a1 a2 b0 b1 b2 (i + 1) = clipTo (sideA b0 b1 b2 i) (sideE b0 b1 b2 i) (clipN a0 a1 a2 b0 b1 b2 i) (clipN a0 a1 a2 b0 b1 b2 i).length) := fun i => rfl
  have HZ0 : Hid (clipN a0 a1 a2 b0 b1 b2 0 = [a0, a1, a2]) := rfl
  generalize clipN a0 a1 a2 b0 b1 b2 = CN at *
  clear hs00 hs01 hs10 hs11 hs20 hs21 ha0 ha1 ha2 hb0 hb1 hb2
  obtain ⟨i0, hi, hzz0, hzz1, hzz2⟩ := info_parts info_pt2
  go_enter Tryz.func142, Tryz.ntmps142
  go_wp2_with fail
  obtain ⟨W, hW⟩ : ∃ W, W = (w.alloc (.cells #[.string (RS a0.1), .string (RS a0.2), .string (RS a1.1), .string (RS a1.2), .string (RS a2.1), .string (RS a2.2)] 149)).alloc (.cells #[.string s00, .string s01, .string s10, .string s11, .string s20, .string s21] 149) := ⟨_, rfl⟩
  have hB : Below w.heap.size w W := by rw [hW]; exact ((Below.refl _ _).alloc (Nat.le_refl _) _).alloc (by simp) _
  have e3 : BoxN W (w.heap.size + 1) 149 [.string s00, .string s01, .string s10, .string s11, .string s20, .string s21] := by rw [hW]; exact BoxN.new _ _ _ _ (by simp)
  have e2 : BoxN W w.heap.size 149 [.string (RS a0.1), .string (RS a0.2), .string (RS a1.1), .string (RS a1.2), .string (RS a2.1), .string (RS a2.2)] := by
    rw [hW]
    have h1 := (BoxN.new w #[.string (RS a0.1), .string (RS a0.2), .string (RS a1.1), .string (RS a1.2), .string (RS a2.1), .string (RS a2.2)] 149 _ rfl)
    exact h1.below ((Below.refl _ _).alloc (Nat.le_refl _) _) h1.lt
  rw [← hW]
  clear hW
  have hrd0 : RdP W (.slice (some ⟨w.heap.size, 0, none⟩) 3 3) (strP (CN 0)) := by
    rw [HZ0.out]
    refine ⟨_, 3, rfl, Nat.le_refl _, by decide, rfl, fun _ => ⟨_, 0, rfl, fun i x hx => ?_⟩⟩
    rw [Nat.zero_add]
    exact e2.cell i hx
  clear e2 HZ0
  go_loopw [5, 18] (fun t5 t18 wr => ∃ i : Nat, t18 = .int .i64 i ∧ i ≤ 3 ∧ RdP wr t5 (strP (CN i)) ∧ Below W.heap.size W wr) (fun _ t18 _ => 3 - (RowKit.intOf t18).toNat)
  case atStart => exact ⟨0, rfl, Nat.zero_le _, hrd0, Below.refl _ _⟩
  case round =>
    clear hrd0
    obtain ⟨i, rfl, hi3, hrd, hbr⟩ := hrel
    obtain ⟨wo, hwo⟩ : ∃ wo : World, wo = wr := ⟨_, rfl⟩
    subst hwo
    have hbW := hB.trans (hbr.mono hB.size)
    rcases Nat.lt_or_ge i 3 with h | h
    · obtain ⟨p, q, jc, hp, hq, hjc, hjc3, hsp, hsq, hcells⟩ := HCO.out i h
      obtain ⟨n, hn0, hn702, hsz⟩ := HSZ.out i h
      have HSTi : Hid (CN (i + 1) = clipTo p q (CN i) (CN i).length) := by unfold Hid; rw [HST.out, hp, hq]
      obtain ⟨l, hl⟩ : ∃ l, l = CN i := ⟨_, rfl⟩
      obtain ⟨N, hN⟩ : ∃ N, N = l.length := ⟨_, rfl⟩
      have hN24 : N ≤ 24 := by rw [hN, hl]; exact HNL.out i (by omega)
      rw [← hl] at hsz HSTi hrd
      rw [← hN] at HSTi
      have HSZi := Lib.hid hsz
      have HSP := Lib.hid hsp
      have HSQ := Lib.hid hsq
      have HNN := Lib.hid hN
      obtain ⟨p5, c5, rfl, hlc5, hm5, hr5⟩ := hrd.open
      have HR5 := Lib.hid hr5
      rw [strP_length, ← hN] at hlc5 ⊢
      obtain ⟨x0, x1, x2, x3⟩ := hcells wo (w.heap.size + 1) (e3.below hbr e3.lt)
      have hiz : (i : Int) < 3 := by omega
      have hjz : (jc : Int) < 3 := by omega
      have hrem2 : ((i : Int) + 1) % 3 = (jc : Int) := by rw [← hjc, Int.tmod_eq_emod_of_nonneg (by omega)]
      clear hp hq hsz hsp hsq hl hN hr5 hcells hrd
      go_upto_region 5 with fail
      go_cut [7, 8] (fun s7 s8 wx => ∃ b7 b8 : Nat, s7 = .pointer (some ⟨b7, 0, none⟩) ∧ s8 = .pointer (some ⟨b8, 0, none⟩) ∧ BoxP wx b7 p ∧ BoxP wx b8 q ∧ Below wo.heap.size wo wx)
      case first =>
        have x0_1 := fun o => cell_alloc_l o x0
        have x0_2 := fun o p => cell_alloc_l p (x0_1 o)
        have x1_1 := fun o => cell_alloc_l o x1
        have x1_2 := fun o p => cell_alloc_l p (x1_1 o)
        have x2_1 := fun o => cell_alloc_l o x2
        have x2_2 := fun o p => cell_alloc_l p (x2_1 o)
        have x3_1 := fun o => cell_alloc_l o x3
        have x3_2 := fun o p => cell_alloc_l p (x3_1 o)
        have hw1 : IntKind.i64.wrap ((i : Int) + 1) = (i : Int) + 1 := IntWalk.i64_in _ (by omega)
        have hw2 : IntKind.i64.wrap (jc : Int) = (jc : Int) := IntWalk.i64_in _ (by omega)
        have hw3 : (0 : Int) ≤ (i : Int) + 1 := by omega
        clear HSZ HNL HST HSTi HR5 HNN hg
        go_region_held3 (fun w' => w'.cell? ⟨w.heap.size + 1, i * 2, none⟩ = some (.string (RS p.1)) ∧ w'.cell? ⟨w.heap.size + 1, i * 2 + 1, none⟩ = some (.string (RS p.2)) ∧ w'.cell? ⟨w.heap.size + 1, jc * 2, none⟩ = some (.string (RS q.1)) ∧ w'.cell? ⟨w.heap.size + 1, jc * 2 + 1, none⟩ = some (.string (RS q.2)))
          (first | exact ⟨x0, x1, x2, x3⟩ | exact ⟨x0_1 _, x1_1 _, x2_1 _, x3_1 _⟩ | exact ⟨x0_2 _ _, x1_2 _ _, x2_2 _ _, x3_2 _ _⟩)
          (first | fail)
        all_goals
          go_wp2_with fail
          go_meet
          refine ⟨_, _, rfl, rfl, ?_, ?_, ?_⟩
          · first | exact boxP_new _ p _ _ (by simp) | exact (boxP_new _ p _ _ (by simp)).alloc _
          · first | exact boxP_new _ q _ _ (by simp) | exact (boxP_new _ q _ _ (by simp)).alloc _
          · exact (((Below.refl wo.heap.size wo).alloc (Nat.le_refl _) _).alloc (by simp) _).trans ((below_drewN _ 1).mono (by simp; omega))
      case rest =>
        obtain ⟨b7, b8, rfl, rfl, hb7, hb8, hbc⟩ := hcut
        obtain ⟨wi, hwi⟩ : ∃ wi : World, wi = wc := ⟨_, rfl⟩
        subst hwi
        clear x0 x1 x2 x3 hjc hrem2
        have hbWi := hbW.trans (hbc.mono hbW.size)
        go_wp2_with fail
        go_loopw [9, 31] (fun t9 t31 wr => ∃ (j n' : Nat), t31 = .int .i64 j ∧ j ≤ N ∧ n' ≤ 2 * j ∧ Hid ((clipTo p q l j).length = n') ∧ wr.ownsRow wi.heap.size 54 2 t9 n' (cellsP (strP (clipTo p q l j))) ∧ Below wi.heap.size wi wr) (fun _ t31 _ => N - (RowKit.intOf t31).toNat)
        case atStart => exact ⟨0, 0, rfl, Nat.zero_le _, Nat.le_refl _, rfl, World.ownsRow_nil _ _ _ _, Below.refl _ _⟩
        case round =>
          obtain ⟨j, n', rfl, hjN, hnj, HLNj, hown, hbr2⟩ := hrel
          obtain ⟨p9, c9, rfl⟩ := ownsRow_shape hown
          have hzr := hbr2.size
          have HOB0 : ∀ jx, (Value.slice p9 n' c9).ownBlock = some jx → wi.heap.size ≤ jx ∧ jx < wr.heap.size := fun jx hj => hown.lt jx hj
          have hbWr := hbWi.trans (hbr2.mono hbWi.size)
          rcases Nat.lt_or_ge j N with hj | hj
          · have HSTj : Hid (clipTo p q l (j + 1) = clipTo p q l j ++ clipS p q (ptL l j) (ptL l ((j + 1) % N))) := by unfold Hid; rw [HNN.out]; rfl
            have hNp : N = l.length := HNN.out
            obtain ⟨g5, o5, rfl, hg5, hcell5⟩ := HR5.out (by intro e; have := strP_length l; rw [e] at this; simp at this; omega)
            obtain ⟨jn, hjn⟩ : ∃ jn, jn = (j + 1) % N := ⟨_, rfl⟩
            have hjn2 : jn < N := by rw [hjn]; exact Nat.mod_lt _ (by omega)
            have hrem : ((j : Int) + 1).tmod (N : Int) = (jn : Int) := by
              rw [Int.tmod_eq_emod_of_nonneg (by omega), hjn]
              push_cast; rfl
            have hrem2 : ((j : Int) + 1) % (N : Int) = (jn : Int) := by rw [hjn]; push_cast; rfl
            have hja : j < l.length := by omega
            have hjb : jn < l.length := by omega
            have g5i : g5 < wi.heap.size := Nat.lt_of_lt_of_le hg5 hbc.size
            obtain ⟨k0, k1⟩ := hcell5 j (by rw [strP_length]; exact hja)
            obtain ⟨l0, l1⟩ := hcell5 jn (by rw [strP_length]; exact hjb)
            rw [strP_get l j hja] at k0 k1
            rw [strP_get l jn hjb] at l0 l1
            dsimp only at k0 k1 l0 l1
            obtain ⟨x, hx⟩ : ∃ x, x = l[j] := ⟨_, rfl⟩
            obtain ⟨y, hy⟩ : ∃ y, y = l[jn] := ⟨_, rfl⟩
            rw [← hx] at k0 k1
            rw [← hy] at l0 l1
            have hsx : SzP n x := by rw [hx]; exact HSZi.out _ (List.getElem_mem _)
            have hsy : SzP n y := by rw [hy]; exact HSZi.out _ (List.getElem_mem _)
            rw [← hjn, ptL_get l j hja, ptL_get l jn hjb, ← hx, ← hy] at HSTj
            replace k0 := (hbr2.cell (p := ⟨g5, o5 + j * 2, none⟩) g5i).trans ((hbc.cell (p := ⟨g5, o5 + j * 2, none⟩) hg5).trans k0)
            replace k1 := (hbr2.cell (p := ⟨g5, o5 + j * 2 + 1, none⟩) g5i).trans ((hbc.cell (p := ⟨g5, o5 + j * 2 + 1, none⟩) hg5).trans k1)
            replace l0 := (hbr2.cell (p := ⟨g5, o5 + jn * 2, none⟩) g5i).trans ((hbc.cell (p := ⟨g5, o5 + jn * 2, none⟩) hg5).trans l0)
            replace l1 := (hbr2.cell (p := ⟨g5, o5 + jn * 2 + 1, none⟩) g5i).trans ((hbc.cell (p := ⟨g5, o5 + jn * 2 + 1, none⟩) hg5).trans l1)
            -- the numbers
            have hzu : Sz (2 * n + 17) (areaQ p q x) := areaQ_Sz2 HSP.out HSQ.out hsx
            have hzv : Sz (2 * n + 17) (areaQ p q y) := areaQ_Sz2 HSP.out HSQ.out hsy
            have HA1 : Hid (∀ w, Good w → _) := fun w hg => area_any p q x (n + 2) (by omega) (by omega) ⟨HSP.out.1.mono (by omega), HSP.out.2.mono (by omega)⟩ ⟨HSQ.out.1.mono (by omega), HSQ.out.2.mono (by omega)⟩ ⟨hsx.1.mono (by omega), hsx.2.mono (by omega)⟩ w hg
            have HA2 : Hid (∀ w, Good w → _) := fun w hg => area_any p q y (n + 2) (by omega) (by omega) ⟨HSP.out.1.mono (by omega), HSP.out.2.mono (by omega)⟩ ⟨HSQ.out.1.mono (by omega), HSQ.out.2.mono (by omega)⟩ ⟨hsy.1.mono (by omega), hsy.2.mono (by omega)⟩ w hg
            unfold VP at HA1 HA2
            obtain ⟨u, hu⟩ : ∃ u, u = areaQ p q x := ⟨_, rfl⟩
            obtain ⟨v, hv⟩ : ∃ v, v = areaQ p q y := ⟨_, rfl⟩
            rw [← hu] at hzu HA1
            rw [← hv] at hzv HA2
            have HDS : Hid (∀ w, Good w → _) := fun w hg => ratSub_any u v (2 * n + 17) (by omega) (by omega) hzu hzv w hg
            have HDV : Hid (u - v ≠ 0 → ∀ w, Good w → _) := fun hne w hg => ratDiv_any u (u - v) (4 * n + 35) (by omega) (by omega) (hzu.mono (by omega)) ((hzu.sub hzv).mono (by omega)) hne w hg
            have hzq : Sz (6 * n + 52) (u / (u - v)) := (hzu.div ((hzu.sub hzv).mono (Nat.le_refl _)) (by omega)).mono (by omega)
            have HTW : Hid (∀ w, Good w → _) := fun w hg => mtoward_any x y (u / (u - v)) n (6 * n + 52) hn0 (by omega) hsx hsy hzq w hg
            have HC1 : Hid (clipS p q x y = (if 0 ≤ u.num.sign then [x] else []) ++ (if u.num.sign * v.num.sign < 0 then [towP x y (u / (u - v))] else [])) := by rw [hu, hv]; rfl
            have HGX : Hid (∀ w, _) := fun w => ratSign_any u w
            have HGY : Hid (∀ w, _) := fun w => ratSign_any v w
            have HNE : Hid (u.num.sign * v.num.sign < 0 → u - v ≠ 0) := fun hlt e => by
              have e2 : u = v := by grind
              rw [e2] at hlt
              rcases sgn3 v with e | e | e <;> rw [e] at hlt <;> exact absurd hlt (by decide)
            have HSX3 := Lib.hid (sgn3 u)
            have HSY3 := Lib.hid (sgn3 v)
            generalize u.num.sign = sx at *
            generalize v.num.sign = sy at *
            have hN0 : (0 : Int) < (N : Int) := by omega
            have hjz2 : (j : Int) < (N : Int) := by omega
            have hjnz : (jn : Int) < (N : Int) := by omega
            have g5r : g5 < wr.heap.size := Nat.lt_of_lt_of_le g5i hzr
            have hb7r := hb7.below hbr2 (World.block_lt_of_cell? wi _ hb7.1)
            have hb8r := hb8.below hbr2 (World.block_lt_of_cell? wi _ hb8.1)
            have hz7 : b7 < wi.heap.size := World.block_lt_of_cell? wi _ hb7.1
            have hz8 : b8 < wi.heap.size := World.block_lt_of_cell? wi _ hb8.1
            clear hcell5 hx hy hja hjb hjn hNp hzu hzv hzq hu hv hsx hsy
            go_upto_region 11 with fail
            obtain ⟨W2, hW2⟩ : ∃ X, X = (wr.alloc (.cells #[.string (RS x.1), .string (RS x.2)] 54)).alloc (.cells #[.string (RS y.1), .string (RS y.2)] 54) := ⟨_, rfl⟩
            have hb2' : Below wr.heap.size wr W2 := by rw [hW2]; exact ((Below.refl _ _).alloc (Nat.le_refl _) _).alloc (by simp) _
            have e12 : BoxN W2 (wr.heap.size + 1) 54 [.string (RS y.1), .string (RS y.2)] := by rw [hW2]; exact BoxN.new _ _ _ _ (by simp)
            have e11 : BoxN W2 wr.heap.size 54 [.string (RS x.1), .string (RS x.2)] := by
              rw [hW2]
              have h1 := (BoxN.new wr #[.string (RS x.1), .string (RS x.2)] 54 _ rfl)
              exact h1.below ((Below.refl _ _).alloc (Nat.le_refl _) _) h1.lt
            rw [← hW2]
            clear hW2 k0 k1 l0 l1 hrem hrem2
            have hbr3 : Below wi.heap.size wi W2 := hbr2.trans (hb2'.mono hzr)
            have hbW2 := hbWi.trans (hbr3.mono hbWi.size)
            have hown2 := World.ownsRow.belowAll hown hb2'
            obtain ⟨y70, y71⟩ := hb7r.below hb2' (by omega)
            obtain ⟨y80, y81⟩ := hb8r.below hb2' (by omega)
            have y110 := e11.cell 0 rfl
            have y111 := e11.cell 1 rfl
            have y120 := e12.cell 0 rfl
            have y121 := e12.cell 1 rfl
            have hl11 := e11.lt
            have hl12 := e12.lt
            have hgd : Good W2.drew := (hg.below hbW2).drewN 1
            clear hb2' hown hbr2 hbWr hb7r hb8r
            go_region_held3 (fun w' => w'.cell? ⟨b7, 0, none⟩ = some (.string (RS p.1)) ∧ w'.cell? ⟨b7, 1, none⟩ = some (.string (RS p.2)) ∧ w'.cell? ⟨b8, 0, none⟩ = some (.string (RS q.1)) ∧ w'.cell? ⟨b8, 1, none⟩ = some (.string (RS q.2)) ∧ w'.cell? ⟨wr.heap.size, 0, none⟩ = some (.string (RS x.1)) ∧ w'.cell? ⟨wr.heap.size, 1, none⟩ = some (.string (RS x.2)) ∧ w'.cell? ⟨wr.heap.size + 1, 0, none⟩ = some (.string (RS y.1)) ∧ w'.cell? ⟨wr.heap.size + 1, 1, none⟩ = some (.string (RS y.2)))
              (first | exact ⟨y70, y71, y80, y81, y110, y111, y120, y121⟩ | exact ⟨p_1_0, p_1_1, p_1_2, p_1_3, p_1_4, p_1_5, p_1_6, p_1_7⟩ | exact ⟨p_2_0, p_2_1, p_2_2, p_2_3, p_2_4, p_2_5, p_2_6, p_2_7⟩)
              (first
              | (go_at_call 139; refine (HA2.out _ pg1).mono ?_; rintro e pw2 ⟨_, rfl, rfl, pb2⟩
                 have p_2_0 := (pb2.cell (p := ⟨b7, 0, none⟩) (by show b7 < pw1.heap.size; omega)).trans p_1_0
                 have p_2_1 := (pb2.cell (p := ⟨b7, 1, none⟩) (by show b7 < pw1.heap.size; omega)).trans p_1_1
                 have p_2_2 := (pb2.cell (p := ⟨b8, 0, none⟩) (by show b8 < pw1.heap.size; omega)).trans p_1_2
                 have p_2_3 := (pb2.cell (p := ⟨b8, 1, none⟩) (by show b8 < pw1.heap.size; omega)).trans p_1_3
                 have p_2_4 := (pb2.cell (p := ⟨wr.heap.size, 0, none⟩) (by show wr.heap.size < pw1.heap.size; omega)).trans p_1_4
                 have p_2_5 := (pb2.cell (p := ⟨wr.heap.size, 1, none⟩) (by show wr.heap.size < pw1.heap.size; omega)).trans p_1_5
                 have p_2_6 := (pb2.cell (p := ⟨wr.heap.size + 1, 0, none⟩) (by show wr.heap.size + 1 < pw1.heap.size; omega)).trans p_1_6
                 have p_2_7 := (pb2.cell (p := ⟨wr.heap.size + 1, 1, none⟩) (by show wr.heap.size + 1 < pw1.heap.size; omega)).trans p_1_7
                 have ps2 : pw1.heap.size ≤ pw2.heap.size := pb2.size
                 have pg2 : Good pw2 := pg1.below pb2)
              | (go_at_call 139; refine (HA1.out _ hgd).mono ?_; rintro e pw1 ⟨_, rfl, rfl, pb1⟩
                 have p_1_0 := (pb1.cell (p := ⟨b7, 0, none⟩) (by show b7 < W2.heap.size; omega)).trans y70
                 have p_1_1 := (pb1.cell (p := ⟨b7, 1, none⟩) (by show b7 < W2.heap.size; omega)).trans y71
                 have p_1_2 := (pb1.cell (p := ⟨b8, 0, none⟩) (by show b8 < W2.heap.size; omega)).trans y80
                 have p_1_3 := (pb1.cell (p := ⟨b8, 1, none⟩) (by show b8 < W2.heap.size; omega)).trans y81
                 have p_1_4 := (pb1.cell (p := ⟨wr.heap.size, 0, none⟩) (by show wr.heap.size < W2.heap.size; omega)).trans y110
                 have p_1_5 := (pb1.cell (p := ⟨wr.heap.size, 1, none⟩) (by show wr.heap.size < W2.heap.size; omega)).trans y111
                 have p_1_6 := (pb1.cell (p := ⟨wr.heap.size + 1, 0, none⟩) (by show wr.heap.size + 1 < W2.heap.size; omega)).trans y120
                 have p_1_7 := (pb1.cell (p := ⟨wr.heap.size + 1, 1, none⟩) (by show wr.heap.size + 1 < W2.heap.size; omega)).trans y121
                 have ps1 : W2.heap.size ≤ pw1.heap.size := pb1.size
                 have pg1 : Good pw1 := hgd.below pb1))
            have pB : Below W2.heap.size W2 pw2 := (((below_drewN W2 1).trans (pb1.mono (by show W2.heap.size ≤ W2.heap.size; omega))).trans (pb2.mono (by show W2.heap.size ≤ pw1.heap.size; omega)))
            have hown3 := World.ownsRow.belowAll hown2 pB
            have hbr4 : Below wi.heap.size wi pw2 := hbr3.trans (pB.mono hbr3.size)
            have f11 := e11.below pB e11.lt
            have f12 := e12.below pB e12.lt
            have hzp := pB.size
            clear pB pb1 pb2 ps1 ps2 pg1 pg2 p_1_0 p_1_1 p_1_2 p_1_3 p_1_4 p_1_5 p_1_6 p_1_7 p_2_0 p_2_1 p_2_2 p_2_3 p_2_4 p_2_5 p_2_6 p_2_7 y70 y71 y80 y81 y110 y111 y120 y121 hgd hown2 hbr3 hbW2 e11 e12 HA1 HA2
            go_wp2_with fail
            refine (HGX.out pw2).mono ?_
            rintro e w3 ⟨_, rfl, rfl, nd, rfl⟩
            go_upto_if 54 with fail
            obtain ⟨w3, hw3⟩ : ∃ X, X = pw2.drewN nd := ⟨_, rfl⟩
            have hd3 : Below pw2.heap.size pw2 w3 := by rw [hw3]; exact below_drewN pw2 nd
            rw [← hw3]
            clear hw3
            have f113 := f11.below hd3 f11.lt
            have f123 := f12.below hd3 f12.lt
            have hown4 := World.ownsRow.belowAll hown3 hd3
            have hbr5 : Below wi.heap.size wi w3 := hbr4.trans (hd3.mono hbr4.size)
            have hz3 := hd3.size
            have HOB : Hid (∀ jx, (Value.slice p9 n' c9).ownBlock = some jx → wi.heap.size ≤ jx ∧ jx < wr.heap.size) := HOB0
            generalize clipTo p q l j = L at *
            obtain ⟨L1, hL1⟩ : ∃ l, l = L ++ (if 0 ≤ sx then [x] else []) := ⟨_, rfl⟩
            have HL1 := Lib.hid hL1
            clear hL1 f11 f12 hown3 hbr4 hd3 HOB0
            go_cut [9] (fun s9 wx => ∃ n1 : Nat, n1 ≤ n' + 1 ∧ Hid (L1.length = n1) ∧ wx.ownsRow wi.heap.size 54 2 s9 n1 (cellsP (strP L1)) ∧ Below wi.heap.size wi wx ∧ w3.heap.size ≤ wx.heap.size ∧ BoxN wx wr.heap.size 54 [.string (RS x.1), .string (RS x.2)] ∧ BoxN wx (wr.heap.size + 1) 54 [.string (RS y.1), .string (RS y.2)])
            case first =>
              rcases Int.lt_or_le sx 0 with hs | hs
              · have HE : Hid (L1 = L) := by unfold Hid; rw [HL1.out, if_neg (by omega), List.append_nil]
                go_wp2_with fail
                go_meet
                exact ⟨n', by omega, by unfold Hid; rw [HE.out]; exact HLNj.out, by rw [HE.out]; exact hown4, hbr5, Nat.le_refl _, f113, f123⟩
              · have HE : Hid (L1 = L ++ [x]) := by unfold Hid; rw [HL1.out, if_pos hs]
                have HLE : Hid (L1.length = n' + 1) := by unfold Hid; rw [HE.out, List.length_append, HLNj.out]; rfl
                have HBE : Hid (cellsP (strP L1) = cellsP (strP L) ++ [.string (RS x.1), .string (RS x.2)]) := by unfold Hid; rw [HE.out, cellsP_snoc]
                have z0 := f113.cell 0 rfl
                have z1 := f113.cell 1 rfl
                have hn4 : n' ≤ 48 := by omega
                have hzB : wi.heap.size ≤ w3.heap.size := hbr5.size
                have hl8 := f113.lt
                have hl9 := f123.lt
                go_wp2_with (at_builtin; refine wpList_append_own _ rfl _ _ 37 rfl wi.heap.size 54 i0 (.agg #[.string ⟨#[]⟩, .string ⟨#[]⟩]) 2 32 Tryz.underlying37 hi hzz0 hzz1 hzz2 rfl (by decide) _ _ _ rfl (hown4.alloc _) ⟨w3.heap.size, 0, none⟩ 1 1 [.string (RS x.1), .string (RS x.2)] rfl rfl (cell_two _ _ _ _) (pt_strs _ _) (by unfold maxLen; omega) (by omega) (by simp; omega) ?_
                             intro v4 w4 hown5 hgrow4 _
                             have hzw4 := hgrow4.size
                             have hbr6 : Below wi.heap.size wi w4 := (hbr5.alloc hzB _).grown hgrow4 (by simp; omega) (fun jx hj => by have := (hown4.lt jx hj).1; omega)
                             have h84 := (hgrow4.block wr.heap.size (by simp; omega) (fun e => by have := (HOB.out _ e.symm).2; omega)).trans (f113.below ((Below.refl _ _).alloc (Nat.le_refl _) _) hl8)
                             have h94 := (hgrow4.block (wr.heap.size + 1) (by simp; omega) (fun e => by have := (HOB.out _ e.symm).2; omega)).trans (f123.below ((Below.refl _ _).alloc (Nat.le_refl _) _) hl9)
                             clear hgrow4)
                rw [← HBE.out] at hown5
                go_wp2_with fail
                go_meet
                exact ⟨n' + 1, Nat.le_refl _, HLE, hown5, hbr6, by simp at hzw4; omega, h84, h94⟩
            case rest =>
              obtain ⟨n1, hn1, HLE1, hownc, hbrc, hzc, h8c, h9c⟩ := hcut
              obtain ⟨pc, cc, rfl⟩ := ownsRow_shape hownc
              obtain ⟨cr, hcr⟩ : ∃ cr, cr = decide (sx * sy < 0) := ⟨_, rfl⟩
              have HCR := Lib.hid hcr
              clear hown4 f113 f123 HOB hbr5 hcr
              go_upto_region 14 with fail
              go_cut [64] (fun s64 wx => s64 = .bool cr ∧ ∃ nd, wx = wc.drewN nd)
              case first =>
                clear HL1 hownc hbrc hzc h8c h9c hn1 HLE1 HC1 HNE HDV HDS HTW HSTj HLNj hzr hg hi hzz0 hzz1 hzz2 hB HCO HSZ HNL HST HSTi HSZi HR5 HSP HSQ hbWi hbW hb7 hb8 hbc
                go_wp2_with fail
                refine (HGX.out wc).mono ?_
                rintro e w5 ⟨_, rfl, rfl, nd5, rfl⟩
                go_wp2_with fail
                refine (HGY.out _).mono ?_
                rintro e w6 ⟨_, rfl, rfl, nd6, rfl⟩
                rcases HSX3.out with rfl | rfl | rfl <;> rcases HSY3.out with rfl | rfl | rfl
                all_goals
                  go_wp2_with fail
                  go_meet
                  exact ⟨by rw [HCR.out]; rfl, _, rfl⟩
              case rest =>
                obtain ⟨rfl, nd6, rfl⟩ := hcut
                obtain ⟨w6, hw6⟩ : ∃ X, X = wc.drewN nd6 := ⟨_, rfl⟩
                have hd6 : Below wc.heap.size wc w6 := by rw [hw6]; exact below_drewN wc nd6
                rw [← hw6]
                clear hw6
                have hown6 := World.ownsRow.belowAll hownc hd6
                have hbr6 : Below wi.heap.size wi w6 := hbrc.trans (hd6.mono hbrc.size)
                have hbW6 := hbWi.trans (hbr6.mono hbWi.size)
                have h86 := h8c.below hd6 h8c.lt
                have h96 := h9c.below hd6 h9c.lt
                clear hownc hbrc h8c h9c hd6
                cases cr
                · have HEL : Hid (clipTo p q l (j + 1) = L1) := by
                    unfold Hid
                    have hn : ¬ sx * sy < 0 := fun e => by have := HCR.out; rw [decide_eq_true e] at this; cases this
                    rw [HSTj.out, HC1.out, HL1.out, if_neg hn, List.append_nil]
                  have HLN' : Hid ((clipTo p q l (j + 1)).length = n1) := by unfold Hid; rw [HEL.out, HLE1.out]
                  rw [← HEL.out] at hown6
                  go_wp2_with fail
                  go_roundw
                  case rel => exact ⟨j + 1, n1, by go_num, by omega, by omega, HLN', hown6, hbr6⟩
                  case measure => simp [RowKit.intOf]; omega
                · have hne := HNE.out (of_decide_eq_true HCR.out.symm)
                  go_wp2_with fail
                  refine (HDS.out w6 (hg.below hbW6)).mono ?_
                  rintro e w7 ⟨_, rfl, rfl, hb7'⟩
                  go_wp2_with fail
                  have hbW7 := hbW6.trans (hb7'.mono hbW6.size)
                  refine (HDV.out hne w7 (hg.below hbW7)).mono ?_
                  rintro e w8 ⟨_, rfl, rfl, hb8'⟩
                  have hbb : Below w6.heap.size w6 w8 := hb7'.trans (hb8'.mono hb7'.size)
                  have hbW8 := hbW6.trans (hbb.mono hbW6.size)
                  have h88 := h86.below hbb h86.lt
                  have h98 := h96.below hbb h96.lt
                  have hown8 := World.ownsRow.belowAll hown6 hbb
                  have hbr8 : Below wi.heap.size wi w8 := hbr6.trans (hbb.mono hbr6.size)
                  clear hb7' hb8' hbW7 h86 h96 hown6 hbr6
                  have HEL : Hid (clipTo p q l (j + 1) = L1 ++ [towP x y (u / (u - v))]) := by
                    unfold Hid
                    rw [HSTj.out, HC1.out, HL1.out, if_pos (of_decide_eq_true HCR.out.symm), List.append_assoc]
                  have HLE8 : Hid ((clipTo p q l (j + 1)).length = n1 + 1) := by unfold Hid; rw [HEL.out, List.length_append, HLE1.out]; rfl
                  have HBE8 : Hid (cellsP (strP (clipTo p q l (j + 1))) = cellsP (strP L1) ++ [.string (RS (towP x y (u / (u - v))).1), .string (RS (towP x y (u / (u - v))).2)]) := by unfold Hid; rw [HEL.out, cellsP_snoc]
                  have HTW' := Lib.hid HTW.out
                  clear HDV HDS HTW HC1 HSTj HL1 HNE HCR HGX HGY HSX3 HSY3 HEL
                  generalize RS (towP x y (u / (u - v))).1 = px at *
                  generalize RS (towP x y (u / (u - v))).2 = py at *
                  generalize RS (u / (u - v)) = qs at *
                  clear hne
                  have z0 := h88.cell 0 rfl
                  have z1 := h88.cell 1 rfl
                  have t0 := h98.cell 0 rfl
                  have t1 := h98.cell 1 rfl
                  go_wp2_with fail
                  refine (HTW'.out w8 (hg.below hbW8)).mono ?_
                  rintro e w9 ⟨_, rfl, rfl, hb9⟩
                  have hown9 := World.ownsRow.belowAll hown8 hb9
                  have hbr9 : Below wi.heap.size wi w9 := hbr8.trans (hb9.mono hbr8.size)
                  have hz9 := hbr9.size
                  have hn4 : n1 ≤ 50 := by omega
                  clear hb9 hbr8 hown8 h88 h98 z0 z1 t0 t1 hbb
                  go_wp2_with (at_builtin; refine wpList_append_own _ rfl _ _ 37 rfl wi.heap.size 54 i0 (.agg #[.string ⟨#[]⟩, .string ⟨#[]⟩]) 2 32 Tryz.underlying37 hi hzz0 hzz1 hzz2 rfl (by decide) _ _ _ rfl (hown9.alloc _) ⟨w9.heap.size, 0, none⟩ 1 1 [.string px, .string py] rfl rfl (cell_two _ _ _ _) (pt_strs _ _) (by unfold maxLen; omega) (by omega) (by simp; omega) ?_
                               intro v10 w10 hown10 hgrow10 _
                               have hzw10 := hgrow10.size
                               have hbr10 : Below wi.heap.size wi w10 := (hbr9.alloc hz9 _).grown hgrow10 (by simp; omega) (fun jx hj => by have := (hown9.lt jx hj).1; omega)
                               clear hgrow10)
                  rw [← HBE8.out] at hown10
                  go_wp2_with fail
                  go_roundw
                  case rel => exact ⟨j + 1, n1 + 1, by go_num, by omega, by omega, HLE8, hown10, hbr10⟩
                  case measure => simp [RowKit.intOf]; omega
          · obtain rfl : j = N := by omega
            have hrd : RdP wr (.slice p9 n' c9) (strP (CN (i + 1))) := by
              have h1 : RdC 2 wr (.slice p9 n' c9) n' (cellsP (strP (clipTo p q l j))) := RdC.of_owns hown
              rw [HSTi.out]
              unfold RdP
              rw [strP_length, HLNj.out]
              exact h1
            have HRD := Lib.hid hrd
            have hbrF : Below W.heap.size W wr := (hbr.trans (hbc.mono hbr.size)).trans (hbr2.mono (by have := hbr.size; have := hbc.size; omega))
            clear hrd
            go_wp2_with fail
            go_roundw
            case rel => exact ⟨i + 1, by go_num, by omega, HRD.out, hbrF⟩
            case measure => simp [RowKit.intOf]; omega
    · obtain rfl : i = 3 := by omega
      have HRD := Lib.hid hrd
      obtain ⟨p5, c5, rfl, -, -, -⟩ := hrd.open
      clear hrd
      go_wp2_with fail
      go_ret
      exact ⟨_, rfl, HRD.out, hbW⟩
end Go.Proofs.YtjfjkiibmfgplaaGreatDoor
