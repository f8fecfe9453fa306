/- What two triangles have in common: the plain words. -/
import Derived.Test.YtccngnjkehibiaaGreatDoorY1
namespace Go.Proofs.YtccngnjkehibiaaGreatDoor
open Go.RowKit Go.Lib

theorem sgn3 (q : Rat) : q.num.sign = -1 ∨ q.num.sign = 0 ∨ q.num.sign = 1 := by
  rcases Int.lt_trichotomy q.num 0 with h | h | h
  · exact .inl (Int.sign_eq_neg_one_of_neg h)
  · exact .inr (.inl (by rw [h]; rfl))
  · exact .inr (.inr (Int.sign_eq_one_of_pos h))
theorem info_pt2 : ((Tryz.prog).info? 24).map (fun i => (i.zero, i.size, i.bytes)) = some (some (.agg #[.string ⟨#[]⟩, .string ⟨#[]⟩]), 2, 32) := by kernel_rfl
theorem pt_strs (x y : ByteArray) : ∀ u ∈ [Value.string x, .string y], u.oneCell' = true := by
  intro u hu
  simp at hu
  rcases hu with rfl | rfl <;> rfl
theorem cellsP_snoc (l : List PtQ) (p : PtQ) : cellsP (strP (l ++ [p])) = cellsP (strP l) ++ [.string (RS p.1), .string (RS p.2)] := by simp [cellsP, strP]
theorem idx_P0 (a b c d e f : Value) (w : World) : (Instr.index 57 (.agg #[a, b, c, d, e, f]) (.int .i64 0)).run Tryz.prog w = .ok (.agg #[a, b]) w := by kernel_rfl
theorem idx_P1 (a b c d e f : Value) (w : World) : (Instr.index 57 (.agg #[a, b, c, d, e, f]) (.int .i64 1)).run Tryz.prog w = .ok (.agg #[c, d]) w := by kernel_rfl
theorem idx_P2 (a b c d e f : Value) (w : World) : (Instr.index 57 (.agg #[a, b, c, d, e, f]) (.int .i64 2)).run Tryz.prog w = .ok (.agg #[e, f]) w := by kernel_rfl

/-- One corner against a side. -/
def clipS (p q x y : PtQ) : List PtQ := (if 0 ≤ (areaQ p q x).num.sign then [x] else []) ++ (if (areaQ p q x).num.sign * (areaQ p q y).num.sign < 0 then [towP x y (areaQ p q x / (areaQ p q x - areaQ p q y))] else [])
def ptL (l : List PtQ) (i : Nat) : PtQ := l[i]?.getD (0, 0)
theorem ptL_get (l : List PtQ) (i : Nat) (h : i < l.length) : ptL l i = l[i] := by unfold ptL; rw [List.getElem?_eq_getElem h]; rfl
def clipTo (p q : PtQ) (l : List PtQ) : Nat → List PtQ | 0 => [] | j + 1 => clipTo p q l j ++ clipS p q (ptL l j) (ptL l ((j + 1) % l.length))
def sideA (b0 b1 b2 : PtQ) : Nat → PtQ | 0 => b0 | 1 => b1 | _ => b2
def sideE (b0 b1 b2 : PtQ) : Nat → PtQ | 0 => b1 | 1 => b2 | _ => b0
def clipN (a0 a1 a2 b0 b1 b2 : PtQ) : Nat → List PtQ
  | 0 => [a0, a1, a2]
  | i + 1 => clipTo (sideA b0 b1 b2 i) (sideE b0 b1 b2 i) (clipN a0 a1 a2 b0 b1 b2 i) (clipN a0 a1 a2 b0 b1 b2 i).length
theorem clipS_len (p q x y : PtQ) : (clipS p q x y).length ≤ 2 := by
  unfold clipS
  rw [List.length_append]
  split <;> split <;> simp
theorem clipTo_len (p q : PtQ) (l : List PtQ) : ∀ j, (clipTo p q l j).length ≤ 2 * j
  | 0 => by simp [clipTo]
  | j + 1 => by
    have h1 := clipTo_len p q l j
    have h2 := clipS_len p q (ptL l j) (ptL l ((j + 1) % l.length))
    unfold clipTo
    rw [List.length_append]
    omega
theorem clipN_len2 (a0 a1 a2 b0 b1 b2 : PtQ) : ∀ i, (clipN a0 a1 a2 b0 b1 b2 i).length ≤ 3 * 2 ^ i
  | 0 => by simp [clipN]
  | i + 1 => by
    have h := clipN_len2 a0 a1 a2 b0 b1 b2 i
    refine Nat.le_trans (clipTo_len (sideA b0 b1 b2 i) (sideE b0 b1 b2 i) (clipN a0 a1 a2 b0 b1 b2 i) _) ?_
    rw [Nat.pow_succ]
    omega
theorem clipN_len (a0 a1 a2 b0 b1 b2 : PtQ) (i : Nat) (hi : i ≤ 3) : (clipN a0 a1 a2 b0 b1 b2 i).length ≤ 24 := by
  refine Nat.le_trans (clipN_len2 a0 a1 a2 b0 b1 b2 i) ?_
  obtain rfl | rfl | rfl | rfl : i = 0 ∨ i = 1 ∨ i = 2 ∨ i = 3 := by omega
  all_goals decide

/-- The sizes: of the places of the i-th part. -/
def szN : Nat → Nat | 0 => 2 | i + 1 => 9 * szN i + 54
theorem areaQ_Sz2 {p q x : PtQ} {n : Nat} (hp : SzP 2 p) (hq : SzP 2 q) (hx : SzP n x) : Sz (2 * n + 17) (areaQ p q x) := by
  unfold areaQ
  exact (((hq.1.sub hp.1).mul (hx.2.sub hp.2)).sub ((hq.2.sub hp.2).mul (hx.1.sub hp.1))).mono (by omega)
theorem towP_Sz {p q x y : PtQ} {n : Nat} (hp : SzP 2 p) (hq : SzP 2 q) (hx : SzP n x) (hy : SzP n y) : SzP (9 * n + 54) (towP x y (areaQ p q x / (areaQ p q x - areaQ p q y))) := by
  have u := areaQ_Sz2 hp hq hx
  have v := areaQ_Sz2 hp hq hy
  have s := u.div (u.sub v) (by omega)
  unfold towP
  exact ⟨(hx.1.add (s.mul (hy.1.sub hx.1))).mono (by omega), (hx.2.add (s.mul (hy.2.sub hx.2))).mono (by omega)⟩
theorem clipS_Sz {p q x y : PtQ} {n : Nat} (hp : SzP 2 p) (hq : SzP 2 q) (hx : SzP n x) (hy : SzP n y) : ∀ c ∈ clipS p q x y, SzP (9 * n + 54) c := by
  intro c hc
  unfold clipS at hc
  rcases List.mem_append.1 hc with h | h
  · split at h
    · simp at h; subst h
      exact ⟨hx.1.mono (by omega), hx.2.mono (by omega)⟩
    · simp at h
  · split at h
    · simp at h; subst h
      exact towP_Sz hp hq hx hy
    · simp at h
theorem clipTo_Sz {p q : PtQ} {l : List PtQ} {n : Nat} (hp : SzP 2 p) (hq : SzP 2 q) (hl : ∀ c ∈ l, SzP n c) : ∀ (j : Nat), j ≤ l.length → ∀ c ∈ clipTo p q l j, SzP (9 * n + 54) c
  | 0, _ => fun c hc => by simp [clipTo] at hc
  | j + 1, hj => fun c hc => by
    unfold clipTo at hc
    rcases List.mem_append.1 hc with h | h
    · exact clipTo_Sz hp hq hl j (by omega) c h
    · have h1 : j < l.length := by omega
      have h2 : (j + 1) % l.length < l.length := Nat.mod_lt _ (by omega)
      rw [ptL_get l j h1, ptL_get l _ h2] at h
      exact clipS_Sz hp hq (hl _ (List.getElem_mem _)) (hl _ (List.getElem_mem _)) c h
theorem clipN_Sz {a0 a1 a2 b0 b1 b2 : PtQ} (h0 : SzP 2 a0) (h1 : SzP 2 a1) (h2 : SzP 2 a2) (g0 : SzP 2 b0) (g1 : SzP 2 b1) (g2 : SzP 2 b2) : ∀ (i : Nat), ∀ c ∈ clipN a0 a1 a2 b0 b1 b2 i, SzP (szN i) c
  | 0 => fun c hc => by
    simp [clipN] at hc
    rcases hc with rfl | rfl | rfl <;> assumption
  | i + 1 => by
    have hA : SzP 2 (sideA b0 b1 b2 i) := by unfold sideA; split <;> assumption
    have hE : SzP 2 (sideE b0 b1 b2 i) := by unfold sideE; split <;> assumption
    exact clipTo_Sz hA hE (clipN_Sz h0 h1 h2 g0 g1 g2 i) _ (Nat.le_refl _)

/-- Have two triangles something else in common than a corner or a side? -/
def sharedL (a0 a1 a2 b0 b1 b2 : PtQ) : List PtQ := [a0, a1, a2].filter (hasP [b0, b1, b2])
def crossB (a0 a1 a2 b0 b1 b2 : PtQ) : Bool := decide ((sharedL a0 a1 a2 b0 b1 b2).length = 3) || (clipN a0 a1 a2 b0 b1 b2 3).any fun p => !hasP (sharedL a0 a1 a2 b0 b1 b2) p
end Go.Proofs.YtccngnjkehibiaaGreatDoor
