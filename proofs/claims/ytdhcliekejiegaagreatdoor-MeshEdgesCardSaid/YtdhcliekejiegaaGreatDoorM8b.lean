/- The contracts of slices.SortFunc and slices.Compact at a slice of the call's own, nil too. -/
import Derived.Test.YtdhcliekejiegaaGreatDoorM8
namespace Go.Proofs.YtdhcliekejiegaaGreatDoor
open Go.RowKit Go.Lib

theorem ratChk_ok (q : Rat) (h : Sz 200 q) (w : World) (hg : Good w) :
    Calls Tryz.prog 86 #[.string (RS q)] w (Ret (fun r _ => r = .int .i64 0) w) := by
  have hs := h.size (by omega)
  refine (checkQ_any (RS q) (by omega) w hg).mono ?_
  rintro e w' ⟨v, he, hv, hb⟩
  exact ⟨v, he, by rw [hv, RS_list, rightQ_RL h]; rfl, hb⟩

def cellsQ (l : List Rat) : List Value := l.map fun q => Value.string (RS q)
theorem two_one (x y : ByteArray) : ∀ u ∈ [Value.string x, .string y], u.oneCell' = true := two_str x y
theorem insD_le (x : Rat) (l : List Rat) : (insD x l).length ≤ l.length + 1 := by
  induction l with
  | nil => simp [insD]
  | cons y l ih =>
    unfold insD
    split
    · simp
    · split
      · simpa using ih
      · simp
theorem sortD_le (l : List Rat) : (sortD l).length ≤ l.length := by
  unfold sortD
  induction l with
  | nil => simp
  | cons x l ih => rw [List.foldr_cons, List.length_cons]; exact Nat.le_trans (insD_le x _) (by omega)
/-- A slice that holds these numbers, from a block's head on. -/
def RowV (w : World) (v : Value) (l : List Rat) : Prop := (v = .slice none 0 0 ∧ l = []) ∨ ∃ g cap, v = .slice (some ⟨g, 0, none⟩) l.length cap ∧ RowQ w g l ∧ l.length ≤ cap ∧ g < w.heap.size
theorem RowV.of_own {w : World} {base e n : Nat} {v : Value} {l : List Rat} (h : w.ownsRow base e 1 v n (cellsQ l)) (hn : n = l.length) : RowV w v l := by
  subst hn
  rcases h.2 with ⟨hv, h0⟩ | ⟨g, cap, cur, hv, hb, hg, hc, _⟩
  · exact .inl ⟨hv, List.length_eq_zero_iff.1 h0⟩
  · subst hv
    refine .inr ⟨g, cap, rfl, fun a q ha => ?_, hc, (Array.getElem?_eq_some_iff.1 hg).1⟩
    have hal := (List.getElem?_eq_some_iff.1 ha).1
    refine ⟨?_, h.frozenAt a⟩
    rw [h.cellAt a (by omega)]
    unfold cellsQ
    rw [List.getElem?_map, ha]; rfl

theorem RowV.shape {w : World} {v : Value} {l : List Rat} (h : RowV w v l) : ∃ p c, v = .slice p l.length c := by
  rcases h with ⟨rfl, rfl⟩ | ⟨g, cap, rfl, _⟩
  · exact ⟨_, _, rfl⟩
  · exact ⟨_, _, rfl⟩
theorem RowV.setFar {w : World} {v : Value} {l : List Rat} (h : RowV w v l) (b i : Nat) (u : Value) (hb : v.ownBlock ≠ some b) : RowV (w.setCell ⟨b, i, none⟩ u) v l := by
  rcases h with ⟨rfl, rfl⟩ | ⟨g, cap, rfl, hr, hc, hg⟩
  · exact .inl ⟨rfl, rfl⟩
  · have hne : b ≠ g := fun e => hb (by rw [e]; rfl)
    exact .inr ⟨g, cap, rfl, fun a q ha => ⟨(World.cell?_setCell_far _ _ _ _ hne).trans (hr a q ha).1, by rw [World.frozen?_setCell]; exact (hr a q ha).2⟩, hc, by simpa using hg⟩
theorem RowV.below {w w' : World} {v : Value} {l : List Rat} {B : Nat} (h : RowV w v l) (hb : Below B w w') (hB : ∀ g, v.ownBlock = some g → g < B) : RowV w' v l := by
  rcases h with ⟨rfl, rfl⟩ | ⟨g, cap, rfl, hr, hc, hg⟩
  · exact .inl ⟨rfl, rfl⟩
  · have hgB := hB g rfl
    exact .inr ⟨g, cap, rfl, fun a q ha => ⟨(hb.cell (p := ⟨g, a, none⟩) hgB).trans (hr a q ha).1, (hb.frozen (p := ⟨g, a, none⟩) hgB).trans (hr a q ha).2⟩, hc, Nat.lt_of_lt_of_le hg hb.size⟩
theorem RowV.lt {w : World} {v : Value} {l : List Rat} (h : RowV w v l) (g : Nat) (hg : v.ownBlock = some g) : g < w.heap.size := by
  rcases h with ⟨rfl, rfl⟩ | ⟨g', cap, rfl, hr, hc, hg'⟩
  · cases hg
  · cases hg; exact hg'
theorem RowV.at {w : World} {v : Value} {l : List Rat} (h : RowV w v l) {a : Nat} {q : Rat} (ha : l[a]? = some q) : ∃ g cap, v = .slice (some ⟨g, 0, none⟩) l.length cap ∧ g < w.heap.size ∧ RowQ w g l := by
  rcases h with ⟨rfl, rfl⟩ | ⟨g, cap, rfl, hr, hc, hg⟩
  · cases ha
  · exact ⟨g, cap, rfl, hg, hr⟩

theorem wStep_Sz {a b p q : PtQ} {m : Nat} (zp : SzP m p) (zq : SzP m q) (za : SzP m a) (zb : SzP m b) {l r : Rat × Rat} (hl : Sz (24 * m + 16) l.1 ∧ Sz (24 * m + 16) l.2) (h : wStep a b (some l) (p, q) = some r) : Sz (24 * m + 16) r.1 ∧ Sz (24 * m + 16) r.2 := by
  have zu := areaQ_Sz zp zq za
  have zv := areaQ_Sz zp zq zb
  have zs : Sz (24 * m + 16) (areaQ p q a / (areaQ p q a - areaQ p q b)) := (zu.div (zu.sub zv) (by omega)).mono (by omega)
  unfold wStep at h
  dsimp only at h
  split at h
  · split at h
    · cases h
    · cases h; exact hl
  · split at h
    · cases h; exact ⟨maxQ_Sz hl.1 zs, hl.2⟩
    · cases h; exact ⟨hl.1, minQ_Sz hl.2 zs⟩
theorem withinF_Sz {c0 c1 c2 a b : PtQ} {m : Nat} (hm7 : m ≤ 7) (z0 : SzP m c0) (z1 : SzP m c1) (z2 : SzP m c2) (za : SzP m a) (zb : SzP m b) {l : Rat × Rat} (h : withinF c0 c1 c2 a b = some l) : Sz 200 l.1 ∧ Sz 200 l.2 ∧ l.1 < l.2 := by
  have step : ∀ i, i ≤ 3 → ∀ r, withinN c0 c1 c2 a b i = some r → Sz (24 * m + 16) r.1 ∧ Sz (24 * m + 16) r.2 := by
    intro i
    induction i with
    | zero => intro _ r hr; cases hr; exact ⟨Sz.zero _ (by omega), Sz.one.mono (by omega)⟩
    | succ i ih =>
      intro hi r hr
      rw [withinN_step _ _ _ _ _ i (by omega)] at hr
      cases hn : withinN c0 c1 c2 a b i with
      | none => rw [hn] at hr; cases hr
      | some l' =>
        rw [hn] at hr
        have hl := ih (by omega) l' hn
        rcases (by omega : i = 0 ∨ i = 1 ∨ i = 2) with rfl | rfl | rfl
        · exact wStep_Sz z0 z1 za zb hl hr
        · exact wStep_Sz z1 z2 za zb hl hr
        · exact wStep_Sz z2 z0 za zb hl hr
  unfold withinF at h
  cases hn : withinN c0 c1 c2 a b 3 with
  | none => rw [hn] at h; cases h
  | some l' =>
    rw [hn] at h
    simp only [Option.bind_some] at h
    split at h
    · cases h
      have := step 3 (by omega) _ hn
      exact ⟨this.1.mono (by omega), this.2.mono (by omega), by assumption⟩
    · cases h
theorem spansN_Sz {P : List PtQ} {T : List Tri} {a b : PtQ} {k m : Nat} (hm : MeshOK P T k) (hkm : k ≤ m) (hm7 : m ≤ 7) (za : SzP m a) (zb : SzP m b) (n : Nat) : ∀ s ∈ spansN P T a b n, Sz 200 s.2.1 ∧ Sz 200 s.2.2 := by
  intro s hs
  unfold spansN at hs
  obtain ⟨i, _, hi⟩ := List.mem_flatMap.1 hs
  unfold spanAt at hi
  split at hi
  · cases hi
  · rename_i tr htr
    obtain ⟨z0, z1, z2⟩ := ptI_SzP hm (List.mem_of_getElem? htr)
    split at hi
    · cases hi
    · rename_i l hl
      rw [List.mem_singleton] at hi
      subst hi
      have := withinF_Sz hm7 ⟨z0.1.mono hkm, z0.2.mono hkm⟩ ⟨z1.1.mono hkm, z1.2.mono hkm⟩ ⟨z2.1.mono hkm, z2.2.mono hkm⟩ za zb hl
      exact ⟨this.1, this.2.1⟩
theorem endsS_Sz {A : List SpanQ} (h : ∀ s ∈ A, Sz 200 s.2.1 ∧ Sz 200 s.2.2) : ∀ q ∈ endsS A, Sz 200 q := by
  intro q hq
  unfold endsS at hq
  obtain ⟨s, hs, hq⟩ := List.mem_flatMap.1 hq
  simp at hq
  rcases hq with rfl | rfl
  · exact (h s hs).1
  · exact (h s hs).2

theorem stepO_none {A out : List SpanQ} {x y : Rat} (h : findK x y A = none) : stepO A out x y = out := by unfold stepO; rw [h]
theorem stepO_nil {A : List SpanQ} {x y : Rat} {k : Nat} {s : SpanQ} (h : findK x y A = some k) (hs : A[k]? = some s) : stepO A [] x y = [(s.1, x, y)] := by
  unfold stepO; rw [h]; simp [hs]
theorem stepO_new {A L : List SpanQ} {l : SpanQ} {x y : Rat} {k : Nat} {s : SpanQ} (h : findK x y A = some k) (hs : A[k]? = some s) (hn : ¬ (l.1 = s.1 ∧ l.2.2 = x)) : stepO A (L ++ [l]) x y = L ++ [l] ++ [(s.1, x, y)] := by
  unfold stepO; rw [h]; simp only [List.getLast?_concat, Option.getD_some, hs]; rw [if_neg hn]
theorem stepO_ext {A L : List SpanQ} {l : SpanQ} {x y : Rat} {k : Nat} {s : SpanQ} (h : findK x y A = some k) (hs : A[k]? = some s) (hn : l.1 = s.1 ∧ l.2.2 = x) : stepO A (L ++ [l]) x y = L ++ [(l.1, l.2.1, y)] := by
  unfold stepO; rw [h]; simp only [List.getLast?_concat, Option.getD_some, hs]; rw [if_pos hn, List.dropLast_concat]
theorem cellsS_len (l : List SpanQ) : (cellsS l).length = l.length * 3 := by
  induction l with
  | nil => rfl
  | cons s l ih => unfold cellsS at *; rw [List.flatMap_cons, List.length_append, ih]; simp [cellS]; omega
theorem cellsS_ext (L : List SpanQ) (l : SpanQ) (y : Rat) : (cellsS (L ++ [l])).set (L.length * 3 + 2) (.string (RS y)) = cellsS (L ++ [(l.1, l.2.1, y)]) := by
  rw [cellsS_snoc, cellsS_snoc, List.set_append_right _ _ (by rw [cellsS_len]; omega), cellsS_len, show L.length * 3 + 2 - L.length * 3 = 2 by omega]
  rfl

theorem sortV_any (w0 w : World) (v : Value) (l0 : List Rat) (hln : l0.length ≤ 12) (hsz : ∀ q ∈ l0, Sz 200 q) (hrow : RowV w v l0) (hb0 : Below w0.heap.size w0 w) (h0g : ∀ g, v.ownBlock = some g → w0.heap.size ≤ g) (hg : Good w0) :
    Calls Tryz.prog 106 #[v, .func (.func 96) #[] #[]] w
      (fun e w' => e = .returned (.tuple #[]) ∧ ∃ l, l.Perm l0 ∧ SortTo l l.length ∧ RowV w' v l ∧ w.grownBy w' v.ownBlock) := by
  rcases hrow with ⟨rfl, rfl⟩ | ⟨g, cap, rfl, hr, hc, hgl⟩
  · have h := AnyF.slices_SortFunc_none (P := Tryz.prog) (ρ := Tryz.sortRat0_ren) Tryz.sortRat0 none 0 (.func (.func 96) #[] #[]) w
    change Calls Tryz.prog 106 _ _ _ at h
    refine h.mono ?_
    rintro e w' ⟨rfl, rfl⟩
    exact ⟨rfl, [], List.Perm.refl _, (fun a b x y _ _ h => by cases h), .inl ⟨rfl, rfl⟩, gb_refl _ _⟩
  · refine (sortRat_any w0 w g cap l0 hln hsz hr hgl hb0 (h0g g rfl) hg).mono ?_
    rintro e w' ⟨rfl, l, h1, h2, h3, h4⟩
    exact ⟨rfl, l, h1, h2, .inr ⟨g, cap, by rw [h1.length_eq], h3, by rw [h1.length_eq]; exact hc, Nat.lt_of_lt_of_le hgl h4.size⟩, h4⟩

theorem compactNil_any (w : World) :
    Calls Tryz.prog 107 #[.slice none 0 0] w (fun e w' => e = .returned (.slice none 0 0) ∧ w' = w) := by
  go_enter Tryz.func107, Tryz.ntmps107
  go_wp2_with fail
  go_ret
  exact ⟨rfl, rfl⟩
theorem compactV_any (w : World) (v : Value) (l : List Rat) (hln : l.length ≤ 1000) (hs : SortTo l l.length) (hrow : RowV w v l) :
    Calls Tryz.prog 107 #[v] w
      (fun e w' => ∃ v', e = .returned v' ∧ RowV w' v' (sortD l) ∧ v'.ownBlock = v.ownBlock ∧ w.grownBy w' v.ownBlock) := by
  rcases hrow with ⟨rfl, rfl⟩ | ⟨g, cap, rfl, hr, hc, hgl⟩
  · refine (compactNil_any w).mono ?_
    rintro e w' ⟨rfl, rfl⟩
    exact ⟨_, rfl, .inl ⟨rfl, rfl⟩, rfl, gb_refl _ _⟩
  · refine (compactRat_any w g cap l hln hs hr hc).mono ?_
    rintro e w' ⟨rfl, h1, h2⟩
    have hle := sortD_le l
    exact ⟨_, rfl, .inr ⟨g, cap, rfl, h1, by omega, Nat.lt_of_lt_of_le hgl h2.size⟩, rfl, h2⟩

end Go.Proofs.YtdhcliekejiegaaGreatDoor
