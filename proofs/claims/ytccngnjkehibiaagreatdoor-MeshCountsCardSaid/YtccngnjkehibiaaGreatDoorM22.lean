/- The walks over klippelaw12.sides, klippelaw12.third, mesh.third, slices.Clone of points and triangles. -/
import Derived.Test.YtccngnjkehibiaaGreatDoorM21
namespace Go.Proofs.YtccngnjkehibiaaGreatDoor
open Go.RowKit Go.Lib

/-- A side of a triangle by its number, a corner by its number. -/
def sideN (t : Tri) (k : Nat) : Edge := if k = 0 then (t.1, t.2.1) else if k = 1 then (t.2.1, t.2.2) else (t.2.2, t.1)
def cornN (t : Tri) (k : Nat) : Int := if k = 0 then t.1 else if k = 1 then t.2.1 else t.2.2
theorem sideN_mem (t : Tri) (k : Nat) : sideN t k ∈ sidesOf t := by
  unfold sideN sidesOf
  split
  · simp
  · split <;> simp
theorem sideN_all {t : Tri} {e : Edge} (h : ∀ k, k < 3 → sideN t k ≠ e) : e ∉ sidesOf t := by
  intro hm
  unfold sidesOf at hm
  simp only [List.mem_cons, List.not_mem_nil, or_false] at hm
  rcases hm with rfl | rfl | rfl
  · exact h 0 (by omega) rfl
  · exact h 1 (by omega) rfl
  · exact h 2 (by omega) rfl
theorem thirdI_at (t : Tri) (u v : Int) (k : Nat) (hk : k < 3) (h : ∀ j, j < k → ¬ (cornN t j ≠ u ∧ cornN t j ≠ v)) (h1 : cornN t k ≠ u ∧ cornN t k ≠ v) : thirdI t u v = cornN t k := by
  unfold thirdI
  rcases (by omega : k = 0 ∨ k = 1 ∨ k = 2) with rfl | rfl | rfl
  · exact if_pos h1
  · have a : ¬ (t.1 ≠ u ∧ t.1 ≠ v) := h 0 (by omega)
    rw [if_neg a]; exact if_pos h1
  · have a : ¬ (t.1 ≠ u ∧ t.1 ≠ v) := h 0 (by omega)
    have b : ¬ (t.2.1 ≠ u ∧ t.2.1 ≠ v) := h 1 (by omega)
    rw [if_neg a, if_neg b]; exact if_pos h1
theorem thirdI_no (t : Tri) (u v : Int) (h : ∀ j, j < 3 → ¬ (cornN t j ≠ u ∧ cornN t j ≠ v)) : thirdI t u v = -1 := by
  unfold thirdI
  have a : ¬ (t.1 ≠ u ∧ t.1 ≠ v) := h 0 (by omega)
  have b : ¬ (t.2.1 ≠ u ∧ t.2.1 ≠ v) := h 1 (by omega)
  have c : ¬ (t.2.2 ≠ u ∧ t.2.2 ≠ v) := h 2 (by omega)
  rw [if_neg a, if_neg b, if_neg c]

set_option maxHeartbeats 4000000 in
set_option maxRecDepth 100000 in
theorem lsides_any (w : World) (vp vt : Value) (Ps : List PtS) (T : List Tri) (hp : RdP w vp Ps) (ht : RdT w vt T) (hl : T.length ≤ 1000000) (u v : Int) :
    Calls Tryz.prog 36 #[.agg #[vp, vt], .int .i64 u, .int .i64 v] w (Ret (fun r _ => r = .int .i64 (sideI T u v)) w) := by
  have HF := Lib.hid (sideI_first T u v)
  have HNO := Lib.hid (sideI_none T u v)
  obtain ⟨pp, cp, rfl, -, -, -⟩ := hp.open
  obtain ⟨pt, ct, rfl, -, -, hd⟩ := ht.open
  have HD := Lib.hid hd
  clear hp ht hd
  go_enter Tryz.func36, Tryz.ntmps36
  go_wp2_with fail
  obtain ⟨W, hW⟩ : ∃ W, W = w.alloc (.cells #[.slice pp Ps.length cp, .slice pt T.length ct] 34) := ⟨_, rfl⟩
  have hB : Below w.heap.size w W := by rw [hW]; exact (Below.refl _ _).alloc (Nat.le_refl _) _
  have b0 : BoxN W w.heap.size 34 [.slice pp Ps.length cp, .slice pt T.length ct] := by rw [hW]; exact BoxN.new _ _ _ _ rfl
  rw [← hW]
  clear hW
  go_loopw [7] (fun t7 wr => ∃ i : Nat, t7 = .int .i64 i ∧ i ≤ T.length ∧ Hid (∀ (j : Nat) (hj : j < T.length), j < i → (u, v) ∉ sidesOf T[j]) ∧ Below W.heap.size W wr) (fun t7 _ => T.length - (RowKit.intOf t7).toNat)
  case atStart => exact ⟨0, rfl, Nat.zero_le _, fun j hj h => absurd h (Nat.not_lt_zero _), Below.refl _ _⟩
  case round =>
    obtain ⟨i, rfl, hi, HN, hbr⟩ := hrel
    have b0r := b0.below hbr b0.lt
    have a1 := b0r.cell 1 rfl
    rcases Nat.lt_or_ge i T.length with h | h
    · have hiz : (i : Int) < (T.length : Int) := by omega
      obtain ⟨g, o, rfl, hg, hcc⟩ := HD.out (List.ne_nil_of_length_pos (by omega))
      obtain ⟨e0, e1, e2⟩ := hcc i h
      have HI := Lib.hid (HF.out i h HN.out)
      have HNN : Hid ((u, v) ∉ sidesOf T[i] → ∀ (j : Nat) (hj : j < T.length), j < i + 1 → (u, v) ∉ sidesOf T[j]) := fun hx j hj hji => by
        rcases Nat.lt_or_ge j i with h2 | h2
        · exact HN.out j hj h2
        · have : j = i := by omega
          subst this
          exact hx
      obtain ⟨tr, htr⟩ : ∃ z, z = T[i] := ⟨_, rfl⟩
      rw [← htr] at e0 e1 e2 HI HNN
      have HCO : Hid (∀ k : Nat, k < 3 → ∃ (jc : Nat) (x y : Int), jc < 3 ∧ ((k : Int) + 1) % 3 = (jc : Int) ∧ sideN tr k = (x, y) ∧ w.cell? ⟨g, o + i * 3 + k, none⟩ = some (.int .i64 x) ∧ w.cell? ⟨g, o + i * 3 + jc, none⟩ = some (.int .i64 y)) := fun k hk => by
        rcases (by omega : k = 0 ∨ k = 1 ∨ k = 2) with rfl | rfl | rfl
        · exact ⟨1, _, _, by omega, by decide, rfl, e0, e1⟩
        · exact ⟨2, _, _, by omega, by decide, rfl, e1, e2⟩
        · exact ⟨0, _, _, by omega, by decide, rfl, e2, e0⟩
      have HBR := Lib.hid (hB.trans (hbr.mono hB.size))
      have HB0 := Lib.hid b0r
      obtain ⟨wo, hwo⟩ : ∃ wo : World, wo = wr := ⟨_, rfl⟩
      rw [← hwo] at HB0 HBR a1 hbr ⊢
      clear hcc e0 e1 e2 htr b0r hwo
      go_wp2_with fail
      go_loopw [8] (fun t8 wr => ∃ k : Nat, t8 = .int .i64 k ∧ k ≤ 3 ∧ Hid (∀ x, x < k → sideN tr x ≠ (u, v)) ∧ Below wo.heap.size wo wr) (fun t8 _ => 3 - (RowKit.intOf t8).toNat)
      case atStart => exact ⟨0, rfl, Nat.zero_le _, fun x h => absurd h (Nat.not_lt_zero _), Below.refl _ _⟩
      case round =>
        obtain ⟨k, rfl, hk, HK, hbk⟩ := hrel
        have b0k := HB0.out.below hbk HB0.out.lt
        have a1 := b0k.cell 1 rfl
        have hBk := HBR.out.trans (hbk.mono HBR.out.size)
        rcases Nat.lt_or_ge k 3 with h3 | h3
        · obtain ⟨jc, x, y, hj3, hjc, hsn, c0, c1⟩ := HCO.out k h3
          have HS := Lib.hid hsn
          have d0 := (hBk.cell (p := ⟨g, o + i * 3 + k, none⟩) hg).trans c0
          have d1 := (hBk.cell (p := ⟨g, o + i * 3 + jc, none⟩) hg).trans c1
          have hkz : (k : Int) < 3 := by omega
          have hjz : (jc : Int) < 3 := by omega
          have hjt : ((k : Int) + 1).tmod 3 = (jc : Int) := by rw [Int.tmod_eq_emod_of_nonneg (by omega)]; exact hjc
          have hw1 : IntKind.i64.wrap ((k : Int) + 1) = (k : Int) + 1 := IntWalk.i64_in _ (by omega)
          have hw5 : IntKind.i64.wrap (jc : Int) = (jc : Int) := IntWalk.i64_in _ (by omega)
          clear hsn c0 c1 hjc
          by_cases hx : x = u
          · have hbx : (x == u) = true := by simp [hx]
            by_cases hy : y = v
            · have hby : (y == v) = true := by simp [hy]
              have HR : Hid (sideI T u v = (i : Int)) := HI.out (by rw [← hx, ← hy, ← HS.out]; exact sideN_mem _ _)
              clear hx hy
              go_wp2_with fail
              go_ret
              exact ⟨_, rfl, (by rw [HR.out]; rfl), hBk⟩
            · have hby : (y == v) = false := by simp [hy]
              have HM : Hid (sideN tr k ≠ (u, v)) := fun e => hy (by rw [HS.out] at e; exact (Prod.mk.inj e).2)
              clear hx hy
              go_wp2_with fail
              go_roundw
              case rel => exact ⟨k + 1, by go_num, by omega, fun z hz => (by
                rcases Nat.lt_or_ge z k with h2 | h2
                · exact HK.out z h2
                · have : z = k := by omega
                  subst this
                  exact HM.out), hbk⟩
              case measure =>
                show 3 - ((k : Int) + 1).toNat < 3 - (k : Int).toNat
                omega
          · have hbx : (x == u) = false := by simp [hx]
            have HM : Hid (sideN tr k ≠ (u, v)) := fun e => hx (by rw [HS.out] at e; exact (Prod.mk.inj e).1)
            clear hx
            go_wp2_with fail
            go_roundw
            case rel => exact ⟨k + 1, by go_num, by omega, fun z hz => (by
                rcases Nat.lt_or_ge z k with h2 | h2
                · exact HK.out z h2
                · have : z = k := by omega
                  subst this
                  exact HM.out), hbk⟩
            case measure =>
              show 3 - ((k : Int) + 1).toNat < 3 - (k : Int).toNat
              omega
        · have hkge : (3 : Int) ≤ (k : Int) := by omega
          have HX : Hid (∀ (j : Nat) (hj : j < T.length), j < i + 1 → (u, v) ∉ sidesOf T[j]) := HNN.out (sideN_all fun x hx => HK.out x (by omega))
          go_wp2_with fail
          go_roundw
          case rel => exact ⟨i + 1, by go_num, by omega, HX, hbr.trans (hbk.mono hbr.size)⟩
          case measure =>
            show T.length - ((i : Int) + 1).toNat < T.length - (i : Int).toNat
            omega
    · have hige : (T.length : Int) ≤ (i : Int) := by omega
      have HR : Hid (sideI T u v = -1) := HNO.out fun j hj => HN.out j hj (by omega)
      go_wp2_with fail
      go_ret
      exact ⟨_, rfl, (by rw [HR.out]; rfl), hB.trans (hbr.mono hB.size)⟩

set_option maxHeartbeats 4000000 in
set_option maxRecDepth 100000 in
theorem lthird_any (w : World) (tr : Tri) (u v : Int) :
    Calls Tryz.prog 37 #[.agg #[.int .i64 tr.1, .int .i64 tr.2.1, .int .i64 tr.2.2], .int .i64 u, .int .i64 v] w (Ret (fun r _ => r = .int .i64 (thirdI tr u v)) w) := by
  have HF := Lib.hid (thirdI_at tr u v)
  have HNO := Lib.hid (thirdI_no tr u v)
  go_enter Tryz.func37, Tryz.ntmps37
  go_wp2_with fail
  obtain ⟨W, hW⟩ : ∃ W, W = w.alloc (.cells #[.int .i64 tr.1, .int .i64 tr.2.1, .int .i64 tr.2.2] 42) := ⟨_, rfl⟩
  have hB : Below w.heap.size w W := by rw [hW]; exact (Below.refl _ _).alloc (Nat.le_refl _) _
  have b0 : BoxN W w.heap.size 42 [.int .i64 tr.1, .int .i64 tr.2.1, .int .i64 tr.2.2] := by rw [hW]; exact BoxN.new _ _ _ _ rfl
  rw [← hW]
  clear hW
  have HCO : Hid (∀ k : Nat, k < 3 → W.cell? ⟨w.heap.size, k, none⟩ = some (.int .i64 (cornN tr k))) := fun k hk => by
    rcases (by omega : k = 0 ∨ k = 1 ∨ k = 2) with rfl | rfl | rfl
    · exact b0.cell 0 rfl
    · exact b0.cell 1 rfl
    · exact b0.cell 2 rfl
  have hl0 := b0.lt
  go_loopw [7] (fun t7 wr => ∃ k : Nat, t7 = .int .i64 k ∧ k ≤ 3 ∧ Hid (∀ x, x < k → ¬ (cornN tr x ≠ u ∧ cornN tr x ≠ v)) ∧ Below W.heap.size W wr) (fun t7 _ => 3 - (RowKit.intOf t7).toNat)
  case atStart => exact ⟨0, rfl, Nat.zero_le _, fun x h => absurd h (Nat.not_lt_zero _), Below.refl _ _⟩
  case round =>
    obtain ⟨k, rfl, hk, HK, hbk⟩ := hrel
    rcases Nat.lt_or_ge k 3 with h3 | h3
    · have d0 := (hbk.cell (p := ⟨w.heap.size, k, none⟩) hl0).trans (HCO.out k h3)
      have hkz : (k : Int) < 3 := by omega
      have HR := Lib.hid (HF.out k h3 HK.out)
      have HKN : Hid (¬ (cornN tr k ≠ u ∧ cornN tr k ≠ v) → ∀ x, x < k + 1 → ¬ (cornN tr x ≠ u ∧ cornN tr x ≠ v)) := fun hn z hz => by
        rcases Nat.lt_or_ge z k with h2 | h2
        · exact HK.out z h2
        · have : z = k := by omega
          subst this
          exact hn
      generalize cornN tr k = x at *
      by_cases hx : x = u
      · have hbx : (x != u) = false := by simp [hx]
        have HKM : Hid (∀ x, x < k + 1 → ¬ (cornN tr x ≠ u ∧ cornN tr x ≠ v)) := HKN.out fun e => e.1 hx
        clear hx
        go_wp2_with fail
        go_roundw
        case rel => exact ⟨k + 1, by go_num, by omega, HKM, hbk⟩
        case measure =>
          show 3 - ((k : Int) + 1).toNat < 3 - (k : Int).toNat
          omega
      · have hbx : (x != u) = true := by simp [hx]
        by_cases hy : x = v
        · have hby : (x != v) = false := by simp [hy]
          have HKM : Hid (∀ x, x < k + 1 → ¬ (cornN tr x ≠ u ∧ cornN tr x ≠ v)) := HKN.out fun e => e.2 hy
          clear hx hy
          go_wp2_with fail
          go_roundw
          case rel => exact ⟨k + 1, by go_num, by omega, HKM, hbk⟩
          case measure =>
            show 3 - ((k : Int) + 1).toNat < 3 - (k : Int).toNat
            omega
        · have hby : (x != v) = true := by simp [hy]
          have HX : Hid (thirdI tr u v = x) := HR.out ⟨hx, hy⟩
          clear hx hy
          go_wp2_with fail
          go_ret
          exact ⟨_, rfl, (by rw [HX.out]; rfl), hB.trans (hbk.mono hB.size)⟩
    · have hkge : (3 : Int) ≤ (k : Int) := by omega
      have HX : Hid (thirdI tr u v = -1) := HNO.out fun x hx => HK.out x (by omega)
      go_wp2_with fail
      go_ret
      exact ⟨_, rfl, (by rw [HX.out]; rfl), hB.trans (hbk.mono hB.size)⟩

set_option maxHeartbeats 1000000 in
set_option maxRecDepth 100000 in
theorem mthird_any (w : World) (a b c u v : Int) (ha : 0 ≤ a ∧ a ≤ 1000000) (hb : 0 ≤ b ∧ b ≤ 1000000) (hc : 0 ≤ c ∧ c ≤ 1000000) (hu : 0 ≤ u ∧ u ≤ 1000000) (hv : 0 ≤ v ∧ v ≤ 1000000) :
    Calls Tryz.prog 84 #[.agg #[.int .i64 a, .int .i64 b, .int .i64 c], .agg #[.int .i64 u, .int .i64 v]] w (Ret (fun r _ => r = .int .i64 (a + b + c - u - v)) w) := by
  go_enter Tryz.func84, Tryz.ntmps84
  go_wp2_with fail
  go_ret
  exact ⟨_, rfl, rfl, ((Below.refl _ _).alloc (Nat.le_refl _) _).alloc (by simp) _⟩

theorem pts_nil (a : Addr) (n c : Nat) (w : World) : (binOp BinOp.eql 31 (.slice (some a) n c) (.slice none 0 0)).run Tryz.prog w = .ok (.bool false) w := by kernel_rfl
theorem tris_nil (a : Addr) (n c : Nat) (w : World) : (binOp BinOp.eql 32 (.slice (some a) n c) (.slice none 0 0)).run Tryz.prog w = .ok (.bool false) w := by kernel_rfl

theorem one_cells_P (l : List PtS) : ∀ u ∈ cellsP l, u.oneCell' = true := by
  intro y hy
  unfold cellsP at hy
  obtain ⟨q, _, hq⟩ := List.mem_flatMap.1 hy
  simp at hq
  rcases hq with rfl | rfl <;> rfl
theorem one_cells_T (l : List Tri) : ∀ u ∈ cellsT l, u.oneCell' = true := by
  intro y hy
  unfold cellsT at hy
  obtain ⟨q, _, hq⟩ := List.mem_flatMap.1 hy
  simp at hq
  rcases hq with rfl | rfl | rfl <;> rfl

set_option maxRecDepth 100000 in
theorem cloneP_any (w : World) (vp : Value) (Ps : List PtS) (h : RdP w vp Ps) (hne : Ps ≠ []) (hl : Ps.length ≤ 1000000) :
    Calls Tryz.prog 85 #[vp] w (Ret (fun r w' => w'.ownsRow w.heap.size 24 2 r Ps.length (cellsP Ps)) w) := by
  obtain ⟨i0, hi, hz0, hz1, hz2⟩ := info_parts info_Point
  have hl0 := List.length_pos_iff.2 hne
  obtain ⟨p, c, rfl, h1, h2, h3, h4⟩ := h
  have hlc : (cellsP Ps).length = Ps.length * 2 := h3
  obtain ⟨b, off, rfl, hcell⟩ := h4 (List.ne_nil_of_length_pos (by rw [h3]; omega))
  have HN : Hid (∀ o, ∀ (j : Nat) (u : Value), (cellsP Ps)[j]? = some u → (w.alloc o).cell? ((⟨b, off, none⟩ : Addr).add j) = some u) := fun o j u hu => by
    have hadd : (⟨b, off, none⟩ : Addr).add j = ⟨b, off + j, none⟩ := by unfold Addr.add; split <;> simp_all
    rw [hadd]
    exact cell_alloc_l o (hcell j u hu)
  have HO := Lib.hid (one_cells_P Ps)
  have HL := Lib.hid hlc
  clear h3 h4 hcell hne hlc
  have hnil := pts_nil
  go_enter Tryz.func85, Tryz.ntmps85
  go_wp2_with (at_builtin; refine wpList_append_own _ rfl _ _ 31 rfl w.heap.size 24 i0 (.agg #[.string ⟨#[]⟩, .string ⟨#[]⟩]) 2 32 Tryz.underlying31 hi hz0 hz1 hz2 rfl (by decide) (.slice (some ⟨w.heap.size, 0, none⟩) 0 0) 0 [] rfl (World.ownsRow_made w #[] 0 (Nat.le_refl _) (by decide) rfl) ⟨b, off, none⟩ Ps.length c (cellsP Ps) rfl HL.out (HN.out _) HO.out (by unfold maxLen; omega) (by omega) (by simp) ?_
               intro v7 w7 hown7 hgrow7 _
               have hb7 : Below w.heap.size w w7 := ((Below.refl _ _).alloc (Nat.le_refl _) _).grown hgrow7 (by simp) (fun j hj => by simp [Value.ownBlock] at hj; omega)
               clear hgrow7)
  have HOW : Hid (w7.ownsRow w.heap.size 24 2 v7 Ps.length (cellsP Ps)) := by
    rw [Nat.zero_add, List.nil_append] at hown7
    exact hown7
  clear hown7
  go_wp2_with fail
  go_ret
  exact ⟨_, rfl, HOW.out, hb7⟩
set_option maxRecDepth 100000 in
theorem cloneT_any (w : World) (vt : Value) (T : List Tri) (h : RdT w vt T) (hne : T ≠ []) (hl : T.length ≤ 1000000) :
    Calls Tryz.prog 86 #[vt] w (Ret (fun r w' => w'.ownsRow w.heap.size 42 3 r T.length (cellsT T)) w) := by
  obtain ⟨i0, hi, hz0, hz1, hz2⟩ := info_parts info_Tri
  have hl0 := List.length_pos_iff.2 hne
  obtain ⟨p, c, rfl, h1, h2, h3, h4⟩ := h
  have hlc : (cellsT T).length = T.length * 3 := h3
  obtain ⟨b, off, rfl, hcell⟩ := h4 (List.ne_nil_of_length_pos (by rw [h3]; omega))
  have HN : Hid (∀ o, ∀ (j : Nat) (u : Value), (cellsT T)[j]? = some u → (w.alloc o).cell? ((⟨b, off, none⟩ : Addr).add j) = some u) := fun o j u hu => by
    have hadd : (⟨b, off, none⟩ : Addr).add j = ⟨b, off + j, none⟩ := by unfold Addr.add; split <;> simp_all
    rw [hadd]
    exact cell_alloc_l o (hcell j u hu)
  have HO := Lib.hid (one_cells_T T)
  have HL := Lib.hid hlc
  clear h3 h4 hcell hne hlc
  have hnil := tris_nil
  go_enter Tryz.func86, Tryz.ntmps86
  go_wp2_with (at_builtin; refine wpList_append_own _ rfl _ _ 32 rfl w.heap.size 42 i0 (.agg #[.int .i64 0, .int .i64 0, .int .i64 0]) 3 24 Tryz.underlying32 hi hz0 hz1 hz2 rfl (by decide) (.slice (some ⟨w.heap.size, 0, none⟩) 0 0) 0 [] rfl (World.ownsRow_made w #[] 0 (Nat.le_refl _) (by decide) rfl) ⟨b, off, none⟩ T.length c (cellsT T) rfl HL.out (HN.out _) HO.out (by unfold maxLen; omega) (by omega) (by simp) ?_
               intro v7 w7 hown7 hgrow7 _
               have hb7 : Below w.heap.size w w7 := ((Below.refl _ _).alloc (Nat.le_refl _) _).grown hgrow7 (by simp) (fun j hj => by simp [Value.ownBlock] at hj; omega)
               clear hgrow7)
  have HOW : Hid (w7.ownsRow w.heap.size 42 3 v7 T.length (cellsT T)) := by
    rw [Nat.zero_add, List.nil_append] at hown7
    exact hown7
  clear hown7
  go_wp2_with fail
  go_ret
  exact ⟨_, rfl, HOW.out, hb7⟩
end Go.Proofs.YtccngnjkehibiaaGreatDoor
