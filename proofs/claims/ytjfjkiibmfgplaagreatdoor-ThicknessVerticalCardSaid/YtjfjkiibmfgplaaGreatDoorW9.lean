/- klippelaw38.ThicknessVertical returns true at every plan and place: the plain part. -/
import Derived.Test.YtjfjkiibmfgplaaGreatDoorW8
namespace Go.Proofs.YtjfjkiibmfgplaaGreatDoor
open Go.RowKit Go.Lib

/-! ### small common denominators -/
/-- A number over d, its numerator at most B. -/
def Fr (d B : Nat) (q : Rat) : Prop := ∃ n : Int, q * (d : Rat) = (n : Rat) ∧ n.natAbs ≤ B
theorem Fr.zero (d B : Nat) : Fr d B 0 := ⟨0, by grind, by simp⟩
theorem Fr.mono {d B C : Nat} {q : Rat} (h : Fr d B q) (hBC : B ≤ C) : Fr d C q := by
  obtain ⟨n, h1, h2⟩ := h
  exact ⟨n, h1, Nat.le_trans h2 hBC⟩
theorem Fr.add {d A B : Nat} {p q : Rat} (hp : Fr d A p) (hq : Fr d B q) : Fr d (A + B) (p + q) := by
  obtain ⟨m, h1, h2⟩ := hp
  obtain ⟨n, h3, h4⟩ := hq
  exact ⟨m + n, by rw [Rat.intCast_add]; grind, by omega⟩
theorem Fr.sub {d A B : Nat} {p q : Rat} (hp : Fr d A p) (hq : Fr d B q) : Fr d (A + B) (p - q) := by
  obtain ⟨m, h1, h2⟩ := hp
  obtain ⟨n, h3, h4⟩ := hq
  exact ⟨m - n, by rw [Rat.intCast_sub]; grind, by omega⟩
theorem Fr.mul {d e A B : Nat} {p q : Rat} (hp : Fr d A p) (hq : Fr e B q) : Fr (d * e) (A * B) (p * q) := by
  obtain ⟨m, h1, h2⟩ := hp
  obtain ⟨n, h3, h4⟩ := hq
  refine ⟨m * n, ?_, ?_⟩
  · rw [Rat.intCast_mul, Rat.natCast_mul, ← h1, ← h3]
    grind
  · rw [Int.natAbs_mul]
    exact Nat.mul_le_mul h2 h4
theorem sz_of_div {m n : Int} {k : Nat} (hn : n ≠ 0) (hm : m.natAbs < 10 ^ k) (hn2 : n.natAbs < 10 ^ k) {q : Rat} (h : q * (n : Rat) = (m : Rat)) : Sz k q := by
  have hn' : (n : Rat) ≠ 0 := by simpa using hn
  have e : q = mkRat (if 0 < n then m else -m) n.natAbs := by
    rw [Rat.mkRat_eq_div]
    rcases Int.lt_or_lt_of_ne hn with h0 | h0
    · rw [if_neg (by omega)]
      have : ((n.natAbs : Nat) : Rat) = -(n : Rat) := by
        have h1 : ((n.natAbs : Nat) : Int) = -n := by omega
        have : (((n.natAbs : Nat) : Int) : Rat) = ((-n : Int) : Rat) := by rw [h1]
        rw [Rat.intCast_neg] at this
        exact this
      rw [this, Rat.intCast_neg, ← h]
      grind
    · rw [if_pos h0]
      have : ((n.natAbs : Nat) : Rat) = (n : Rat) := by
        have h1 : ((n.natAbs : Nat) : Int) = n := by omega
        have : (((n.natAbs : Nat) : Int) : Rat) = ((n : Int) : Rat) := by rw [h1]
        exact this
      rw [this, ← h]
      grind
  rw [e]
  exact Sz.mkRat (by omega) (by split <;> omega) hn2

/-! ### the values of a plan -/
theorem fr_mkRat (n : Int) (d e B : Nat) (hd : d ≠ 0) (he : d ∣ e) (hB : n.natAbs * (e / d) ≤ B) : Fr e B (mkRat n d) := by
  obtain ⟨c, rfl⟩ := he
  have h0 : (d : Rat) ≠ 0 := by simpa using hd
  rw [Nat.mul_div_cancel_left c (by omega)] at hB
  refine ⟨n * c, ?_, by rw [Int.natAbs_mul]; simpa using hB⟩
  rw [Rat.mkRat_eq_div, Rat.natCast_mul, Rat.intCast_mul]
  have : ((c : Int) : Rat) = (c : Rat) := rfl
  rw [this]
  grind
theorem fr_place (s : Int) (half : Bool) (x : Int) (hx : 0 ≤ x ∧ x ≤ 6) : Fr 2 26 (placeQ s half x) := by
  have := tmod8_bound s
  unfold placeQ
  cases half
  · exact fr_mkRat _ 1 2 26 (by decide) (by decide) (by show (x + s.tmod 8).natAbs * 2 ≤ 26; omega)
  · exact fr_mkRat _ 2 2 26 (by decide) (by decide) (by show (x + s.tmod 8).natAbs * 1 ≤ 26; omega)
theorem fr_height (hs : List Int) (half : Bool) (n : Nat) : ∀ q ∈ heightsF hs half n, Fr 2 38 q := fun q hq => by
  obtain ⟨i, _, rfl⟩ := List.mem_map.1 hq
  unfold heightQ
  have := tmod20_bound (hs[i % 6]?.getD 0)
  cases half
  · exact fr_mkRat _ 1 2 38 (by decide) (by decide) (by show ((hs[i % 6]?.getD 0).tmod 20).natAbs * 2 ≤ 38; omega)
  · exact fr_mkRat _ 2 2 38 (by decide) (by decide) (by show ((hs[i % 6]?.getD 0).tmod 20).natAbs * 1 ≤ 38; omega)
theorem fr_raise (add : Int) (hs : List Int) (half : Bool) (n : Nat) : ∀ q ∈ (heightsF hs half n).map (raiseQ add), Fr 2 49 q := fun q hq => by
  obtain ⟨z, hz, rfl⟩ := List.mem_map.1 hq
  have h1 := fr_height hs half n z hz
  have h2 := tmod12_bound add
  have h3 : Fr 2 11 (mkRat (add.tmod 12) 2) := fr_mkRat _ 2 2 11 (by decide) (by decide) (by show (add.tmod 12).natAbs * 1 ≤ 11; omega)
  exact h1.add h3
theorem fr_planU (k : Nat) (hs : List Int) (half : Bool) (hs2 : List Int) (half2 : Bool) (even : Bool) (add : Int) : ∀ q ∈ planU k hs half hs2 half2 even add, Fr 2 49 q := by
  unfold planU planL
  cases even
  · exact fun q hq => (fr_height _ _ _ q hq).mono (by omega)
  · exact fr_raise _ _ _ _
def FrP (d B : Nat) (p : PtQ) : Prop := Fr d B p.1 ∧ Fr d B p.2
theorem fr_sheet (k : Nat) (s0 s1 : Int) (half : Bool) : ∀ p ∈ sheetP k s0 s1 half, FrP 2 26 p := fun p hp => by
  obtain ⟨q, hq, rfl⟩ := List.mem_map.1 hp
  have := shapeP_small k q hq
  exact ⟨fr_place _ _ _ this.1, fr_place _ _ _ this.2⟩
theorem fr_area {P : List PtQ} {T : List Tri} (hp : ∀ p ∈ P, FrP 2 26 p) (hidx : ∀ t ∈ T, ∀ x ∈ idxOf t, 0 ≤ x ∧ x < (P.length : Int)) {tr : Tri} (htr : tr ∈ T) : Fr 4 5408 (areaT P tr) := by
  have key : ∀ z ∈ idxOf tr, FrP 2 26 (ptI P z) := fun z hz => by
    obtain ⟨h0, h1⟩ := hidx tr htr z hz
    obtain ⟨q, rfl⟩ : ∃ q : Nat, z = (q : Int) := ⟨z.toNat, by omega⟩
    rw [ptI_nat P q (by omega)]
    exact hp _ (List.getElem_mem _)
  have h0 := key tr.1 (by simp [idxOf])
  have h1 := key tr.2.1 (by simp [idxOf])
  have h2 := key tr.2.2 (by simp [idxOf])
  unfold areaT areaQ
  exact (((h1.1.sub h0.1).mul (h2.2.sub h0.2)).sub ((h1.2.sub h0.2).mul (h2.1.sub h0.1))).mono (by decide)
theorem fr_hI {d B : Nat} {F : List Rat} (h : ∀ q ∈ F, Fr d B q) (z : Int) : Fr d B (hI F z) := by
  unfold hI
  cases e : F[z.toNat]? with
  | none => exact Fr.zero d B
  | some q => exact h q (List.mem_of_getElem? e)
theorem fr_difQ {d A B : Nat} {L U : List Rat} (hL : ∀ q ∈ L, Fr d A q) (hU : ∀ q ∈ U, Fr d B q) : ∀ q ∈ difQ L U, Fr d (B + A) q := fun q hq => by
  unfold difQ at hq
  obtain ⟨i, hi, rfl⟩ := List.getElem_of_mem hq
  rw [List.getElem_zipWith]
  exact (hU _ (List.getElem_mem _)).sub (hL _ (List.getElem_mem _))
theorem fr_fold {d B : Nat} (f : Tri → Rat) : ∀ (T : List Tri) (n : Nat) (x : Rat), (∀ t ∈ T, Fr d B (f t)) → Fr d n x → Fr d (n + T.length * B) (T.foldl (fun s tr => s + f tr) x)
  | [], n, x, _, hx => by simpa using hx
  | a :: T, n, x, h, hx => by
    rw [List.foldl_cons, List.length_cons]
    have := fr_fold f T (n + B) (x + f a) (fun t ht => h t (List.mem_cons_of_mem _ ht)) (hx.add (h a (List.mem_cons_self ..)))
    refine this.mono ?_
    rw [Nat.add_mul]
    omega
/-- The mean is no long number. -/
theorem mean_Sz {P : List PtQ} {T : List Tri} {L U : List Rat} (hp : ∀ p ∈ P, FrP 2 26 p) (hidx : ∀ t ∈ T, ∀ x ∈ idxOf t, 0 ≤ x ∧ x < (P.length : Int)) (hL : ∀ q ∈ L, Fr 2 49 q) (hU : ∀ q ∈ U, Fr 2 49 q) (hT : T.length ≤ 20) (hall : allM P T ≠ 0) : Sz 200 (meanQ P (difQ L U) T) := by
  have hd := fr_difQ hL hU
  have h1 : Fr 8 (0 + T.length * (5408 * (98 + 98 + 98))) (sumM P (difQ L U) T) := by
    unfold sumM
    refine fr_fold (d := 8) (B := 5408 * (98 + 98 + 98)) (fun tr => areaT P tr * triSum (difQ L U) tr) T 0 0 (fun tr htr => ?_) (Fr.zero _ _)
    have e : Fr 2 (98 + 98 + 98) (triSum (difQ L U) tr) := by
      rw [thrQ_tri]
      exact ((fr_hI hd _).add (fr_hI hd _)).add (fr_hI hd _)
    exact (fr_area hp hidx htr).mul e
  have h2 : Fr 4 (0 + T.length * 5408) (allM P T) := by
    unfold allM
    exact fr_fold (d := 4) (B := 5408) (fun tr => areaT P tr) T 0 0 (fun tr htr => fr_area hp hidx htr) (Fr.zero _ _)
  obtain ⟨m, e1, b1⟩ := h1
  obtain ⟨n, e2, b2⟩ := h2
  have hn : n ≠ 0 := by
    intro e
    rw [e] at e2
    have : allM P T * 4 = 0 := by simpa using e2
    exact hall (by grind)
  have b3 : T.length * (5408 * (98 + 98 + 98)) ≤ 20 * (5408 * (98 + 98 + 98)) := Nat.mul_le_mul_right _ hT
  have b4 : T.length * 5408 ≤ 20 * 5408 := Nat.mul_le_mul_right _ hT
  refine (show Sz 12 (meanQ P (difQ L U) T) from ?_).mono (by omega)
  have e10 : (10 : Nat) ^ 12 = 1000000000000 := by decide
  refine sz_of_div (m := m) (n := 6 * n) (by omega) (by rw [e10]; omega) (by rw [e10]; omega) ?_
  unfold meanQ
  have e3 : ((6 * n : Int) : Rat) = 6 * (n : Rat) := by rw [Rat.intCast_mul]; rfl
  rw [e3, ← e1, ← e2]
  have e4 : ((8 : Nat) : Rat) = 8 := rfl
  have e5 : ((4 : Nat) : Rat) = 4 := rfl
  rw [e4, e5]
  grind

/-! ### the mean lies between the least and the greatest -/
theorem minQ_le (a b : Rat) : minQ a b ≤ a ∧ minQ a b ≤ b := by
  unfold minQ
  split
  · rename_i h; exact ⟨Rat.le_of_lt h, Rat.le_refl⟩
  · rename_i h; exact ⟨Rat.le_refl, Rat.not_lt.1 h⟩
theorem le_maxQ (a b : Rat) : a ≤ maxQ a b ∧ b ≤ maxQ a b := by
  unfold maxQ
  split
  · rename_i h; exact ⟨Rat.le_of_lt h, Rat.le_refl⟩
  · rename_i h; exact ⟨Rat.le_refl, Rat.not_lt.1 h⟩
theorem foldl_minQ_le : ∀ (l : List Rat) (a : Rat), l.foldl minQ a ≤ a ∧ ∀ q ∈ l, l.foldl minQ a ≤ q
  | [], a => ⟨Rat.le_refl, by simp⟩
  | b :: l, a => by
    obtain ⟨h1, h2⟩ := foldl_minQ_le l (minQ a b)
    obtain ⟨h3, h4⟩ := minQ_le a b
    refine ⟨Rat.le_trans h1 h3, fun q hq => ?_⟩
    rcases List.mem_cons.1 hq with rfl | hq
    · exact Rat.le_trans h1 h4
    · exact h2 q hq
theorem le_foldl_maxQ : ∀ (l : List Rat) (a : Rat), a ≤ l.foldl maxQ a ∧ ∀ q ∈ l, q ≤ l.foldl maxQ a
  | [], a => ⟨Rat.le_refl, by simp⟩
  | b :: l, a => by
    obtain ⟨h1, h2⟩ := le_foldl_maxQ l (maxQ a b)
    obtain ⟨h3, h4⟩ := le_maxQ a b
    refine ⟨Rat.le_trans h3 h1, fun q hq => ?_⟩
    rcases List.mem_cons.1 hq with rfl | hq
    · exact Rat.le_trans h4 h1
    · exact h2 q hq
theorem lowQ_le (l : List Rat) : ∀ q ∈ l, lowQ l ≤ q := fun q hq => by
  cases l with
  | nil => simp at hq
  | cons a l =>
    obtain ⟨h1, h2⟩ := foldl_minQ_le l a
    rcases List.mem_cons.1 hq with rfl | hq
    · exact h1
    · exact h2 q hq
theorem le_highQ (l : List Rat) : ∀ q ∈ l, q ≤ highQ l := fun q hq => by
  cases l with
  | nil => simp at hq
  | cons a l =>
    obtain ⟨h1, h2⟩ := le_foldl_maxQ l a
    rcases List.mem_cons.1 hq with rfl | hq
    · exact h1
    · exact h2 q hq
theorem fold_bounds (f g : Tri → Rat) (lo hi : Rat) : ∀ (T : List Tri) (x y : Rat), (∀ t ∈ T, 0 ≤ f t ∧ 3 * lo ≤ g t ∧ g t ≤ 3 * hi) → 3 * lo * x ≤ y → y ≤ 3 * hi * x →
    3 * lo * T.foldl (fun s t => s + f t) x ≤ T.foldl (fun s t => s + f t * g t) y ∧ T.foldl (fun s t => s + f t * g t) y ≤ 3 * hi * T.foldl (fun s t => s + f t) x
  | [], _, _, _, h1, h2 => ⟨h1, h2⟩
  | a :: T, x, y, h, h1, h2 => by
    obtain ⟨h3, h4, h5⟩ := h a (List.mem_cons_self ..)
    have k1 : 0 ≤ f a * (g a - 3 * lo) := Rat.mul_nonneg h3 (by grind)
    have k2 : 0 ≤ f a * (3 * hi - g a) := Rat.mul_nonneg h3 (by grind)
    exact fold_bounds f g lo hi T (x + f a) (y + f a * g a) (fun t ht => h t (List.mem_cons_of_mem _ ht)) (by grind) (by grind)
theorem allM_pos {P : List PtQ} : ∀ {T : List Tri}, T ≠ [] → (∀ t ∈ T, 0 < areaT P t) → 0 < allM P T := fun {T} hne h => by
  have key : ∀ (T : List Tri) (x : Rat), (∀ t ∈ T, 0 < areaT P t) → x ≤ T.foldl (fun s t => s + areaT P t) x := by
    intro T
    induction T with
    | nil => intro x _; exact Rat.le_refl
    | cons a T ih =>
      intro x h
      have := ih (x + areaT P a) (fun t ht => h t (List.mem_cons_of_mem _ ht))
      have h2 := h a (List.mem_cons_self ..)
      rw [List.foldl_cons]
      grind
  cases T with
  | nil => exact absurd rfl hne
  | cons a T =>
    have h1 := key T (0 + areaT P a) (fun t ht => h t (List.mem_cons_of_mem _ ht))
    have h2 := h a (List.mem_cons_self ..)
    unfold allM
    rw [List.foldl_cons]
    grind
theorem mean_between {P : List PtQ} {T : List Tri} {D : List Rat} (hne : T ≠ []) (hpos : ∀ t ∈ T, 0 < areaT P t) (hidx : ∀ t ∈ T, ∀ x ∈ idxOf t, 0 ≤ x ∧ x < (D.length : Int)) : lowQ D ≤ meanQ P D T ∧ meanQ P D T ≤ highQ D := by
  have hall := allM_pos hne hpos
  have hm : ∀ t ∈ T, ∀ x ∈ idxOf t, lowQ D ≤ hI D x ∧ hI D x ≤ highQ D := fun t ht x hx => by
    obtain ⟨h0, h1⟩ := hidx t ht x hx
    obtain ⟨m, rfl⟩ : ∃ m : Nat, x = (m : Int) := ⟨x.toNat, by omega⟩
    rw [hI_nat D m (by omega)]
    exact ⟨lowQ_le D _ (List.getElem_mem _), le_highQ D _ (List.getElem_mem _)⟩
  obtain ⟨h1, h2⟩ := fold_bounds (areaT P) (triSum D) (lowQ D) (highQ D) T 0 0 (fun t ht => by
    have e0 := hm t ht t.1 (by simp [idxOf])
    have e1 := hm t ht t.2.1 (by simp [idxOf])
    have e2 := hm t ht t.2.2 (by simp [idxOf])
    rw [thrQ_tri]
    unfold thrQ
    exact ⟨Rat.le_of_lt (hpos t ht), by grind, by grind⟩) (by grind) (by grind)
  have e1 : meanQ P D T * (3 * allM P T) = sumM P D T := by
    unfold meanQ
    have : 3 * allM P T ≠ 0 := by grind
    grind
  have e2 : allM P T = T.foldl (fun s t => s + areaT P t) 0 := rfl
  have e3 : sumM P D T = T.foldl (fun s t => s + areaT P t * triSum D t) 0 := rfl
  rw [← e2, ← e3, ← e1] at h1 h2
  refine ⟨?_, ?_⟩
  · refine Rat.not_lt.1 fun hlt => ?_
    have : 0 < (lowQ D - meanQ P D T) * (3 * allM P T) := Rat.mul_pos (by grind) (by grind)
    grind
  · refine Rat.not_lt.1 fun hlt => ?_
    have : 0 < (meanQ P D T - highQ D) * (3 * allM P T) := Rat.mul_pos (by grind) (by grind)
    grind
theorem cmpQ_le {a b : Rat} (h : a ≤ b) : cmpQ a b ≤ 0 := by
  unfold cmpQ
  split
  · omega
  · split
    · rename_i h1; exact absurd h1 (Rat.not_lt.2 h)
    · omega

/-! ### values of a difference -/
theorem hI_difQ {L U : List Rat} (hlen : L.length = U.length) (z : Int) (h0 : 0 ≤ z) (h1 : z < (U.length : Int)) : hI (difQ L U) z = hI U z - hI L z := by
  obtain ⟨m, rfl⟩ : ∃ m : Nat, z = (m : Int) := ⟨z.toNat, by omega⟩
  rw [hI_nat _ m (by rw [difQ_length _ _ hlen]; omega), hI_nat U m (by omega), hI_nat L m (by omega)]
  have e := difQ_get L U m (by omega) (by omega)
  rw [List.getElem?_eq_getElem (by rw [difQ_length _ _ hlen]; omega)] at e
  exact Option.some.inj e
theorem slopeQ_sub (A B C : PtQ) (a b c a' b' c' : Rat) : slopeQ A B C (a - a') (b - b') (c - c') = ((slopeQ A B C a b c).1 - (slopeQ A B C a' b' c').1, (slopeQ A B C a b c).2 - (slopeQ A B C a' b' c').2) := by
  unfold slopeQ minorQ
  refine Prod.ext ?_ ?_
  · dsimp only
    generalize 1 / ((B.1 - A.1) * (C.2 - A.2) - (B.2 - A.2) * (C.1 - A.1)) = k
    grind
  · dsimp only
    generalize 1 / ((B.1 - A.1) * (C.2 - A.2) - (B.2 - A.2) * (C.1 - A.1)) = k
    grind
theorem onQ_difQ {P : List PtQ} {T : List Tri} {L U : List Rat} (hlen : L.length = U.length) (hul : U.length = P.length) (hidx : ∀ t ∈ T, ∀ x ∈ idxOf t, 0 ≤ x ∧ x < (P.length : Int)) {tr : Tri} (htr : tr ∈ T) (p : PtQ) : onQ P (difQ L U) tr p = onQ P U tr p - onQ P L tr p := by
  have hi := hidx tr htr
  have e0 := hI_difQ hlen tr.1 (hi _ (by simp [idxOf])).1 (by have := (hi tr.1 (by simp [idxOf])).2; omega)
  have e1 := hI_difQ hlen tr.2.1 (hi _ (by simp [idxOf])).1 (by have := (hi tr.2.1 (by simp [idxOf])).2; omega)
  have e2 := hI_difQ hlen tr.2.2 (hi _ (by simp [idxOf])).1 (by have := (hi tr.2.2 (by simp [idxOf])).2; omega)
  unfold onQ slopeT
  rw [e0, e1, e2, slopeQ_sub]
  dsimp only
  grind
end Go.Proofs.YtjfjkiibmfgplaaGreatDoor
