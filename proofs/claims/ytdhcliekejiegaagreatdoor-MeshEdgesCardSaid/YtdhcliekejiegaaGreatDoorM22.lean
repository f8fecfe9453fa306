/- The walks over klippelaw12.sides, klippelaw12.third, mesh.third, slices.Clone of points and triangles. -/
import Derived.Test.YtdhcliekejiegaaGreatDoorM21
namespace Go.Proofs.YtdhcliekejiegaaGreatDoor
open Go.RowKit Go.Lib

/-- A side of a triangle by its number, a corner by its number. -/
def sideN (t : Tri) (k : Nat) : Edge := if k = 0 then (t.1, t.2.1) else if k = 1 then (t.2.1, t.2.2) else (t.2.2, t.1)
theorem sideN_mem (t : Tri) (k : Nat) : sideN t k ∈ sidesOf t := by
  unfold sideN sidesOf
  split
  · simp
  · split <;> simp
theorem sideN_all {t : Tri} {e : Edge} (h : ∀ k, k < 3 → sideN t k ≠ e) : e ∉ sidesOf t := by
  intro hm
  unfold sidesOf at hm
  simp only [List.mem_cons, List.not_mem_nil, or_false] at hm
  rcases hm with rfl | rfl | rfl
  · exact h 0 (by omega) rfl
  · exact h 1 (by omega) rfl
  · exact h 2 (by omega) rfl
set_option maxHeartbeats 4000000 in
set_option maxRecDepth 100000 in
theorem lsides_any (w : World) (vp vt : Value) (Ps : List PtS) (T : List Tri) (hp : RdP w vp Ps) (ht : RdT w vt T) (hl : T.length ≤ 1000000) (u v : Int) :
    Calls Tryz.prog 16 #[.agg #[vp, vt], .int .i64 u, .int .i64 v] w (Ret (fun r _ => r = .int .i64 (sideI T u v)) w) := by
  have HF := Lib.hid (sideI_first T u v)
  have HNO := Lib.hid (sideI_none T u v)
  obtain ⟨pp, cp, rfl, -, -, -⟩ := hp.open
  obtain ⟨pt, ct, rfl, -, -, hd⟩ := ht.open
  have HD := Lib.hid hd
  clear hp ht hd
  go_enter Tryz.func16, Tryz.ntmps16
  go_wp2_with fail
  obtain ⟨W, hW⟩ : ∃ W, W = w.alloc (.cells #[.slice pp Ps.length cp, .slice pt T.length ct] 30) := ⟨_, rfl⟩
  have hB : Below w.heap.size w W := by rw [hW]; exact (Below.refl _ _).alloc (Nat.le_refl _) _
  have b0 : BoxN W w.heap.size 30 [.slice pp Ps.length cp, .slice pt T.length ct] := by rw [hW]; exact BoxN.new _ _ _ _ rfl
  rw [← hW]
  clear hW
  go_loopw [7] (fun t7 wr => ∃ i : Nat, t7 = .int .i64 i ∧ i ≤ T.length ∧ Hid (∀ (j : Nat) (hj : j < T.length), j < i → (u, v) ∉ sidesOf T[j]) ∧ Below W.heap.size W wr) (fun t7 _ => T.length - (RowKit.intOf t7).toNat)
  case atStart => exact ⟨0, rfl, Nat.zero_le _, fun j hj h => absurd h (Nat.not_lt_zero _), Below.refl _ _⟩
  case round =>
    obtain ⟨i, rfl, hi, HN, hbr⟩ := hrel
    have b0r := b0.below hbr b0.lt
    have a1 := b0r.cell 1 rfl
    rcases Nat.lt_or_ge i T.length with h | h
    · have hiz : (i : Int) < (T.length : Int) := by omega
      obtain ⟨g, o, rfl, hg, hcc⟩ := HD.out (List.ne_nil_of_length_pos (by omega))
      obtain ⟨e0, e1, e2⟩ := hcc i h
      have HI := Lib.hid (HF.out i h HN.out)
      have HNN : Hid ((u, v) ∉ sidesOf T[i] → ∀ (j : Nat) (hj : j < T.length), j < i + 1 → (u, v) ∉ sidesOf T[j]) := fun hx j hj hji => by
        rcases Nat.lt_or_ge j i with h2 | h2
        · exact HN.out j hj h2
        · have : j = i := by omega
          subst this
          exact hx
      obtain ⟨tr, htr⟩ : ∃ z, z = T[i] := ⟨_, rfl⟩
      rw [← htr] at e0 e1 e2 HI HNN
      have HCO : Hid (∀ k : Nat, k < 3 → ∃ (jc : Nat) (x y : Int), jc < 3 ∧ ((k : Int) + 1) % 3 = (jc : Int) ∧ sideN tr k = (x, y) ∧ w.cell? ⟨g, o + i * 3 + k, none⟩ = some (.int .i64 x) ∧ w.cell? ⟨g, o + i * 3 + jc, none⟩ = some (.int .i64 y)) := fun k hk => by
        rcases (by omega : k = 0 ∨ k = 1 ∨ k = 2) with rfl | rfl | rfl
        · exact ⟨1, _, _, by omega, by decide, rfl, e0, e1⟩
        · exact ⟨2, _, _, by omega, by decide, rfl, e1, e2⟩
        · exact ⟨0, _, _, by omega, by decide, rfl, e2, e0⟩
      have HBR := Lib.hid (hB.trans (hbr.mono hB.size))
      have HB0 := Lib.hid b0r
      obtain ⟨wo, hwo⟩ : ∃ wo : World, wo = wr := ⟨_, rfl⟩
      rw [← hwo] at HB0 HBR a1 hbr ⊢
      clear hcc e0 e1 e2 htr b0r hwo
      go_wp2_with fail
      go_loopw [8] (fun t8 wr => ∃ k : Nat, t8 = .int .i64 k ∧ k ≤ 3 ∧ Hid (∀ x, x < k → sideN tr x ≠ (u, v)) ∧ Below wo.heap.size wo wr) (fun t8 _ => 3 - (RowKit.intOf t8).toNat)
      case atStart => exact ⟨0, rfl, Nat.zero_le _, fun x h => absurd h (Nat.not_lt_zero _), Below.refl _ _⟩
      case round =>
        obtain ⟨k, rfl, hk, HK, hbk⟩ := hrel
        have b0k := HB0.out.below hbk HB0.out.lt
        have a1 := b0k.cell 1 rfl
        have hBk := HBR.out.trans (hbk.mono HBR.out.size)
        rcases Nat.lt_or_ge k 3 with h3 | h3
        · obtain ⟨jc, x, y, hj3, hjc, hsn, c0, c1⟩ := HCO.out k h3
          have HS := Lib.hid hsn
          have d0 := (hBk.cell (p := ⟨g, o + i * 3 + k, none⟩) hg).trans c0
          have d1 := (hBk.cell (p := ⟨g, o + i * 3 + jc, none⟩) hg).trans c1
          have hkz : (k : Int) < 3 := by omega
          have hjz : (jc : Int) < 3 := by omega
          have hjt : ((k : Int) + 1).tmod 3 = (jc : Int) := by rw [Int.tmod_eq_emod_of_nonneg (by omega)]; exact hjc
          have hw1 : IntKind.i64.wrap ((k : Int) + 1) = (k : Int) + 1 := IntWalk.i64_in _ (by omega)
          have hw5 : IntKind.i64.wrap (jc : Int) = (jc : Int) := IntWalk.i64_in _ (by omega)
          clear hsn c0 c1 hjc
          by_cases hx : x = u
          · have hbx : (x == u) = true := by simp [hx]
            by_cases hy : y = v
            · have hby : (y == v) = true := by simp [hy]
              have HR : Hid (sideI T u v = (i : Int)) := HI.out (by rw [← hx, ← hy, ← HS.out]; exact sideN_mem _ _)
              clear hx hy
              go_wp2_with fail
              go_ret
              exact ⟨_, rfl, (by rw [HR.out]; rfl), hBk⟩
            · have hby : (y == v) = false := by simp [hy]
              have HM : Hid (sideN tr k ≠ (u, v)) := fun e => hy (by rw [HS.out] at e; exact (Prod.mk.inj e).2)
              clear hx hy
              go_wp2_with fail
              go_roundw
              case rel => exact ⟨k + 1, by go_num, by omega, fun z hz => (by
                rcases Nat.lt_or_ge z k with h2 | h2
                · exact HK.out z h2
                · have : z = k := by omega
                  subst this
                  exact HM.out), hbk⟩
              case measure =>
                show 3 - ((k : Int) + 1).toNat < 3 - (k : Int).toNat
                omega
          · have hbx : (x == u) = false := by simp [hx]
            have HM : Hid (sideN tr k ≠ (u, v)) := fun e => hx (by rw [HS.out] at e; exact (Prod.mk.inj e).1)
            clear hx
            go_wp2_with fail
            go_roundw
            case rel => exact ⟨k + 1, by go_num, by omega, fun z hz => (by
                rcases Nat.lt_or_ge z k with h2 | h2
                · exact HK.out z h2
                · have : z = k := by omega
                  subst this
                  exact HM.out), hbk⟩
            case measure =>
              show 3 - ((k : Int) + 1).toNat < 3 - (k : Int).toNat
              omega
        · have hkge : (3 : Int) ≤ (k : Int) := by omega
          have HX : Hid (∀ (j : Nat) (hj : j < T.length), j < i + 1 → (u, v) ∉ sidesOf T[j]) := HNN.out (sideN_all fun x hx => HK.out x (by omega))
          go_wp2_with fail
          go_roundw
          case rel => exact ⟨i + 1, by go_num, by omega, HX, hbr.trans (hbk.mono hbr.size)⟩
          case measure =>
            show T.length - ((i : Int) + 1).toNat < T.length - (i : Int).toNat
            omega
    · have hige : (T.length : Int) ≤ (i : Int) := by omega
      have HR : Hid (sideI T u v = -1) := HNO.out fun j hj => HN.out j hj (by omega)
      go_wp2_with fail
      go_ret
      exact ⟨_, rfl, (by rw [HR.out]; rfl), hB.trans (hbr.mono hB.size)⟩

end Go.Proofs.YtdhcliekejiegaaGreatDoor
