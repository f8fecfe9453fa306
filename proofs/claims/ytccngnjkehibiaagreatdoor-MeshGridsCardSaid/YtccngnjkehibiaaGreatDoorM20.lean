/- klippelaw12.MeshGrids returns true: any two places (texts of more than 20 bytes too), any columns and rows. -/
import Derived.Test.YtccngnjkehibiaaGreatDoorM19
namespace Go.Proofs.YtccngnjkehibiaaGreatDoor
open Go.RowKit Go.Lib

theorem allQ_split (a b c d : ByteArray) : allQ [a, b, c, d] = (allQ [a, b] && allQ [c, d]) := by
  unfold allQ; simp [Bool.and_assoc]

theorem cmp_lt {a b : Rat} (h : a < b) : cmpQ a b = -1 := by unfold cmpQ; rw [if_pos h]
theorem cmp_ge {a b : Rat} (h : ¬ a < b) : 0 ≤ cmpQ a b := by unfold cmpQ; rw [if_neg h]; split <;> decide

theorem meshGrids_all (w : World) (lx ly hx hy : ByteArray) (c0 c1 : Int) (hg : Good w) :
    Calls Tryz.prog 3 #[.agg #[.string lx, .string ly], .agg #[.string hx, .string hy], .agg #[.int .i64 c0, .int .i64 c1]] w (Ret (fun r _ => r = .bool true) w) := by
  by_cases hz : lx.size ≤ 20 ∧ ly.size ≤ 20 ∧ hx.size ≤ 20 ∧ hy.size ≤ 20
  case neg =>
    refine mg_big lx ly hx hy c0 c1 ?_ w hg
    rcases Nat.lt_or_ge 20 lx.size with h | h
    · exact ⟨0, by omega, h⟩
    rcases Nat.lt_or_ge 20 ly.size with h1 | h1
    · exact ⟨1, by omega, h1⟩
    rcases Nat.lt_or_ge 20 hx.size with h2 | h2
    · exact ⟨2, by omega, h2⟩
    rcases Nat.lt_or_ge 20 hy.size with h3 | h3
    · exact ⟨3, by omega, h3⟩
    exact absurd ⟨h, h1, h2, h3⟩ hz
  obtain ⟨z1, z2, z3, z4⟩ := hz
  have hc1 : ∀ w, Good w → Calls Tryz.prog 56 #[.agg #[.string lx, .string ly]] w (Ret (fun r _ => r = .int .i64 (errNum (allQ [lx, ly]))) w) := fun w hg => checkPoint_any lx ly (by omega) (by omega) w hg
  have hc2 : ∀ w, Good w → Calls Tryz.prog 56 #[.agg #[.string hx, .string hy]] w (Ret (fun r _ => r = .int .i64 (errNum (allQ [hx, hy]))) w) := fun w hg => checkPoint_any hx hy (by omega) (by omega) w hg
  cases hall : allQ [lx, ly, hx, hy]
  · refine mg_number lx ly hx hy c0 c1 ⟨z1, z2, z3, z4⟩ hall ?_ w hg
    intro w hg
    rw [allQ_split] at hall
    cases h1 : allQ [lx, ly]
    · rw [h1] at hc1
      exact grid_e1 lx ly hx hy c0 c1 hc1 w hg
    · rw [h1, Bool.true_and] at hall
      rw [h1] at hc1
      rw [hall] at hc2
      exact grid_e2 lx ly hx hy c0 c1 hc1 hc2 w hg
  have h12 := hall
  rw [allQ_split, Bool.and_eq_true] at h12
  rw [h12.1] at hc1
  rw [h12.2] at hc2
  have hq := hall
  unfold allQ at hq
  simp only [List.all_cons, List.all_nil, Bool.and_true, Bool.and_eq_true] at hq
  obtain ⟨q1, q2, q3, q4⟩ := hq
  obtain ⟨ax, rfl, s1⟩ := right20' q1 z1
  obtain ⟨ay, rfl, s2⟩ := right20' q2 z2
  obtain ⟨bx, rfl, s3⟩ := right20' q3 z3
  obtain ⟨bz, rfl, s4⟩ := right20' q4 z4
  have hkx : ∀ w, Good w → Calls Tryz.prog 14 #[.string (RS ax), .string (RS bx)] w (Ret (fun v _ => v = .int .i64 (cmpQ ax bx)) w) := fun w hg => ratCompare_any ax bx 20 (by omega) (by omega) s1 s3 w hg
  have hky : ∀ w, Good w → Calls Tryz.prog 14 #[.string (RS ay), .string (RS bz)] w (Ret (fun v _ => v = .int .i64 (cmpQ ay bz)) w) := fun w hg => ratCompare_any ay bz 20 (by omega) (by omega) s2 s4 w hg
  by_cases hlx : ax < bx
  case neg =>
    exact mg_order1 _ _ _ _ c0 c1 ⟨z1, z2, z3, z4⟩ hall _ (cmp_ge hlx) hkx (fun w hg => grid_e3 _ _ _ _ c0 c1 hc1 hc2 _ (cmp_ge hlx) hkx w hg) w hg
  rw [cmp_lt hlx] at hkx
  by_cases hly : ay < bz
  case neg =>
    exact mg_order2 _ _ _ _ c0 c1 ⟨z1, z2, z3, z4⟩ hall hkx _ (cmp_ge hly) hky (fun w hg => grid_e4 _ _ _ _ c0 c1 hc1 hc2 hkx _ (cmp_ge hly) hky w hg) w hg
  rw [cmp_lt hly] at hky
  by_cases hr : c0 < 1 ∨ (1 ≤ c0 ∧ 15 < c0) ∨ (1 ≤ c0 ∧ c0 ≤ 15 ∧ c1 < 1) ∨ (1 ≤ c0 ∧ c0 ≤ 15 ∧ 1 ≤ c1 ∧ 15 < c1)
  · exact mg_range _ _ _ _ c0 c1 ⟨z1, z2, z3, z4⟩ hall hkx hky hr (fun w hg => grid_e5 _ _ _ _ c0 c1 hc1 hc2 hkx hky hr w hg) w hg
  by_cases hm : 3 < c0 ∨ (c0 ≤ 3 ∧ 3 < c1)
  · exact mg_many _ _ _ _ c0 c1 ⟨z1, z2, z3, z4⟩ hall hkx hky ⟨by omega, by omega, by omega, by omega, hm⟩ w hg
  obtain ⟨c, rfl⟩ := Int.eq_ofNat_of_zero_le (a := c0) (by omega)
  obtain ⟨r, rfl⟩ := Int.eq_ofNat_of_zero_le (a := c1) (by omega)
  exact mg_good ax ay bx bz s1 s2 s3 s4 hlx hly ⟨z1, z2, z3, z4⟩ c r (by omega) (by omega) (by omega) (by omega) w hg

end Go.Proofs.YtccngnjkehibiaaGreatDoor
