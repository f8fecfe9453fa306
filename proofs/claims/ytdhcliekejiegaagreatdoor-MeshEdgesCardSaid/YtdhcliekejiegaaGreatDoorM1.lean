/- Plain: grids; right meshes under a map that keeps turns. -/
import Derived.Test.YtdhcliekejiegaaGreatDoorZ2
namespace Go.Proofs.YtdhcliekejiegaaGreatDoor
open Go.RowKit Go.Lib

/-- A map that keeps turns and the order of heights keeps the form. -/
theorem form_map (f : PtQ → PtQ) (hinj : ∀ p q, f p = f q → p = q) (hturn : ∀ a b c, turnZ (f a) (f b) (f c) = turnZ a b c) (hup : ∀ p q, upB (f p) (f q) = upB p q) (P : List PtQ) (T : List Tri) (h : formB P T = true) : formB (P.map f) T = true := by
  have getD_f : ∀ i, i < P.length → (P.map f)[i]?.getD (0, 0) = f (P[i]?.getD (0, 0)) := fun i h => by
    rw [List.getElem?_map, List.getElem?_eq_getElem h]; rfl
  unfold formB at *
  simp only [Bool.and_eq_true, List.all_eq_true, decide_eq_true_eq, List.length_map] at *
  obtain ⟨h1, h2, h3, h4, h5, h6⟩ := h
  have hin : ∀ t ∈ T, ∀ x ∈ idxOf t, x.toNat < P.length := fun t ht x hx => by have := h3 t ht x hx; omega
  refine ⟨h1, ?_, h3, ?_, ?_, h6⟩
  · exact List.Pairwise.map _ (fun a b hab e => hab (hinj _ _ e)) h2
  · intro tr htr
    have i0 := hin tr htr tr.1 (by simp [idxOf])
    have i1 := hin tr htr tr.2.1 (by simp [idxOf])
    have i2 := hin tr htr tr.2.2 (by simp [idxOf])
    rw [getD_f _ i0, getD_f _ i1, getD_f _ i2, hturn]
    exact h4 tr htr
  · unfold wholeB at *
    simp only [Bool.and_eq_true, List.length_map] at *
    refine ⟨h5.1, ⟨h5.2.1.1, h5.2.1.2⟩, ?_⟩
    have hne : outerL (keysOf T) ≠ [] := by
      have := h5.2.1.1
      intro e
      rw [e] at this
      simp at this
    have hpt : ∀ i, ptAt (P.map f) (outerL (keysOf T)) i = f (ptAt P (outerL (keysOf T)) i) := fun i => by
      unfold ptAt
      have hl : i % (outerL (keysOf T)).length < (outerL (keysOf T)).length := Nat.mod_lt _ (List.length_pos_iff.2 hne)
      have := h6 (outerL (keysOf T))[i % (outerL (keysOf T)).length] (List.getElem_mem hl)
      rw [List.getElem?_eq_getElem hl, Option.getD_some]
      exact getD_f _ (by omega)
    rw [← h5.2.2]
    unfold onceB roundsN
    have e1 : bentAt (P.map f) (outerL (keysOf T)) = bentAt P (outerL (keysOf T)) := funext fun i => by unfold bentAt; rw [hpt, hpt, hpt, hturn]
    have e2 : riseAt (P.map f) (outerL (keysOf T)) = riseAt P (outerL (keysOf T)) := funext fun i => by unfold riseAt upAt; rw [hpt, hpt, hpt, hup, hup]
    rw [e1, e2]

/-- Moved, and scaled along both axes. -/
def affP (a s b t : Rat) (p : PtQ) : PtQ := (a + s * p.1, b + t * p.2)

theorem sign_if (q : Rat) : q.num.sign = if q < 0 then -1 else if 0 < q then 1 else 0 := by
  split
  · rename_i h; exact Int.sign_eq_neg_one_of_neg (num_lt_zero_iff.2 h)
  · split
    · rename_i h; exact Int.sign_eq_one_of_pos (num_pos_iff.2 h)
    · rename_i h1 h2
      have : q = 0 := Rat.le_antisymm (Rat.not_lt.1 h2) (Rat.not_lt.1 h1)
      subst this; rfl
theorem pos_mul_iff {d x : Rat} (h : 0 < d) : (d * x < 0 ↔ x < 0) ∧ (0 < d * x ↔ 0 < x) := by
  refine ⟨⟨?_, ?_⟩, ?_, ?_⟩
  · intro h1
    refine Rat.not_le.1 fun h2 => ?_
    have := Rat.mul_nonneg (Rat.le_of_lt h) h2
    exact absurd h1 (Rat.not_lt.2 this)
  · intro h1
    have := Rat.mul_pos h (a := d) (b := -x) (by grind)
    grind
  · intro h1
    refine Rat.not_le.1 fun h2 => ?_
    have := Rat.mul_nonneg (a := d) (b := -x) (Rat.le_of_lt h) (by grind)
    grind
  · intro h1; exact Rat.mul_pos h h1
theorem turnZ_aff (a s b t : Rat) (hs : 0 < s) (ht : 0 < t) (p q r : PtQ) : turnZ (affP a s b t p) (affP a s b t q) (affP a s b t r) = turnZ p q r := by
  have e : areaQ (affP a s b t p) (affP a s b t q) (affP a s b t r) = (s * t) * areaQ p q r := by
    unfold areaQ affP
    grind
  unfold turnZ
  rw [e]
  obtain ⟨e1, e2⟩ := pos_mul_iff (x := areaQ p q r) (Rat.mul_pos hs ht)
  rw [sign_if, sign_if]
  simp only [e1, e2]
theorem upB_aff (a s b t : Rat) (hs : 0 < s) (ht : 0 < t) (p q : PtQ) : upB (affP a s b t p) (affP a s b t q) = upB p q := by
  have lt : ∀ d x y z : Rat, 0 < d → (z + d * x < z + d * y ↔ x < y) := fun d x y z hd => by
    obtain ⟨_, e⟩ := pos_mul_iff (x := y - x) hd
    constructor
    · intro h
      have := e.1 (by grind)
      grind
    · intro h
      have := e.2 (by grind)
      grind
  have eq : ∀ d x y z : Rat, 0 < d → (z + d * x = z + d * y ↔ x = y) := fun d x y z hd => by
    constructor
    · intro h
      refine Rat.le_antisymm (Rat.not_lt.1 fun h2 => ?_) (Rat.not_lt.1 fun h2 => ?_)
      · have := (lt d y x z hd).2 h2; rw [h] at this; exact absurd this (Rat.lt_irrefl)
      · have := (lt d x y z hd).2 h2; rw [h] at this; exact absurd this (Rat.lt_irrefl)
    · intro h; rw [h]
  unfold upB affP
  simp only [lt _ _ _ _ hs, lt _ _ _ _ ht, eq _ _ _ _ ht]
theorem affP_inj (a s b t : Rat) (hs : 0 < s) (ht : 0 < t) (p q : PtQ) (h : affP a s b t p = affP a s b t q) : p = q := by
  unfold affP at h
  have h1 := congrArg Prod.fst h
  have h2 := congrArg Prod.snd h
  dsimp only at h1 h2
  have key : ∀ d x y z : Rat, 0 < d → z + d * x = z + d * y → x = y := fun d x y z hd e => by
    have e1 : d * (x - y) = 0 := by grind
    rcases Rat.mul_eq_zero.1 e1 with e2 | e2
    · rw [e2] at hd; exact absurd hd (Rat.lt_irrefl)
    · grind
  exact Prod.ext (key _ _ _ _ hs h1) (key _ _ _ _ ht h2)
theorem form_aff (a s b t : Rat) (hs : 0 < s) (ht : 0 < t) (P : List PtQ) (T : List Tri) (h : formB P T = true) : formB (P.map (affP a s b t)) T = true :=
  form_map _ (affP_inj a s b t hs ht) (turnZ_aff a s b t hs ht) (upB_aff a s b t hs ht) P T h

/-! ### grids -/
def gridX (a b : Rat) (n i : Nat) : Rat := a + mkRat i n * (b - a)
def gPt (lx ly hx hy : Rat) (c r m : Nat) : PtQ := (gridX lx hx c (m % (c + 1)), gridX ly hy r (m / (c + 1)))
/-- The first n points of a grid. -/
def gridPn (lx ly hx hy : Rat) (c r n : Nat) : List PtQ := (List.range n).map (gPt lx ly hx hy c r)
def gridP (lx ly hx hy : Rat) (c r : Nat) : List PtQ := gridPn lx ly hx hy c r ((r + 1) * (c + 1))
def gTr (c m : Nat) : List Tri := [(((m / c) * (c + 1) + m % c : Nat), ((m / c) * (c + 1) + m % c + 1 : Nat), ((m / c) * (c + 1) + m % c + c + 2 : Nat)), (((m / c) * (c + 1) + m % c : Nat), ((m / c) * (c + 1) + m % c + c + 2 : Nat), ((m / c) * (c + 1) + m % c + c + 1 : Nat))]
/-- The triangles of the first n cells. -/
def gridTn (c n : Nat) : List Tri := (List.range n).flatMap (gTr c)
def gridT (c r : Nat) : List Tri := gridTn c (r * c)

theorem gridPn_snoc (lx ly hx hy : Rat) (c r j i : Nat) (hi : i ≤ c) : gridPn lx ly hx hy c r (j * (c + 1) + i + 1) = gridPn lx ly hx hy c r (j * (c + 1) + i) ++ [(gridX lx hx c i, gridX ly hy r j)] := by
  unfold gridPn
  rw [List.range_succ, List.map_append, List.map_singleton]
  have e1 : (j * (c + 1) + i) % (c + 1) = i := by rw [Nat.mul_comm j, Nat.mul_add_mod, Nat.mod_eq_of_lt (by omega)]
  have e2 : (j * (c + 1) + i) / (c + 1) = j := by rw [Nat.mul_comm j, Nat.mul_add_div (by omega), Nat.div_eq_of_lt (by omega), Nat.add_zero]
  unfold gPt
  rw [e1, e2]
theorem gridPn_length (lx ly hx hy : Rat) (c r n : Nat) : (gridPn lx ly hx hy c r n).length = n := by simp [gridPn]
theorem gridTn_snoc (c j i : Nat) (hi : i < c) : gridTn c (j * c + i + 1) = gridTn c (j * c + i) ++ ([((j * (c + 1) + i : Nat), (j * (c + 1) + i + 1 : Nat), (j * (c + 1) + i + c + 2 : Nat)), ((j * (c + 1) + i : Nat), (j * (c + 1) + i + c + 2 : Nat), (j * (c + 1) + i + c + 1 : Nat))] : List Tri) := by
  unfold gridTn
  rw [List.range_succ, List.flatMap_append]
  simp only [List.flatMap_cons, List.flatMap_nil, List.append_nil]
  have e1 : (j * c + i) % c = i := by rw [Nat.mul_comm j, Nat.mul_add_mod, Nat.mod_eq_of_lt hi]
  have e2 : (j * c + i) / c = j := by rw [Nat.mul_comm j, Nat.mul_add_div (by omega), Nat.div_eq_of_lt hi, Nat.add_zero]
  unfold gTr
  rw [e1, e2]
theorem gridTn_length (c n : Nat) : (gridTn c n).length = 2 * n := by
  unfold gridTn
  induction n with
  | zero => rfl
  | succ n ih => rw [List.range_succ, List.flatMap_append, List.length_append, ih]; simp [gTr]; omega

theorem gridX_Sz {a b : Rat} {k : Nat} (ha : Sz k a) (hb : Sz k b) (n i : Nat) (hn : 0 < n) (hn2 : n ≤ 15) (hi : i ≤ n) : Sz (3 * k + 4) (gridX a b n i) := by
  unfold gridX
  have h1 : Sz 2 (mkRat i n) := Sz.mkRat (by omega) (by omega) (by omega)
  exact (ha.add (h1.mul (hb.sub ha))).mono (by omega)
theorem gridP_SzP {lx ly hx hy : Rat} {k : Nat} (h1 : Sz k lx) (h2 : Sz k ly) (h3 : Sz k hx) (h4 : Sz k hy) (c r : Nat) (hc : 0 < c) (hc2 : c ≤ 15) (hr : 0 < r) (hr2 : r ≤ 15) : ∀ p ∈ gridP lx ly hx hy c r, SzP (3 * k + 4) p := by
  intro p hp
  unfold gridP gridPn at hp
  obtain ⟨m, hm, rfl⟩ := List.mem_map.1 hp
  rw [List.mem_range] at hm
  have e1 : m % (c + 1) < c + 1 := Nat.mod_lt _ (by omega)
  have e2 : m / (c + 1) < r + 1 := Nat.div_lt_of_lt_mul (by rw [Nat.mul_comm]; exact hm)
  exact ⟨gridX_Sz h1 h3 c _ hc hc2 (by omega), gridX_Sz h2 h4 r _ hr hr2 (by omega)⟩

/-- The grid of whole numbers. -/
def gridN (c r : Nat) : List PtQ := (List.range ((r + 1) * (c + 1))).map fun m => (((m % (c + 1) : Nat) : Rat), ((m / (c + 1) : Nat) : Rat))
theorem gridN_form : ∀ c, c < 3 → ∀ r, r < 3 → formB (gridN (c + 1) (r + 1)) (gridT (c + 1) (r + 1)) = true := by decide +kernel
theorem gridP_aff (lx ly hx hy : Rat) (c r : Nat) : gridP lx ly hx hy c r = (gridN c r).map (affP lx ((hx - lx) / (c : Rat)) ly ((hy - ly) / (r : Rat))) := by
  unfold gridP gridPn gridN
  rw [List.map_map]
  refine List.map_congr_left fun m _ => ?_
  show (_, _) = affP _ _ _ _ _
  unfold affP gridX
  rw [Rat.mkRat_eq_div, Rat.mkRat_eq_div]
  refine Prod.ext ?_ ?_
  · show _ = lx + (hx - lx) / (c : Rat) * ((m % (c + 1) : Nat) : Rat)
    generalize m % (c + 1) = z
    simp only [Rat.div_def, Rat.intCast_natCast]
    grind
  · show _ = ly + (hy - ly) / (r : Rat) * ((m / (c + 1) : Nat) : Rat)
    generalize m / (c + 1) = z
    simp only [Rat.div_def, Rat.intCast_natCast]
    grind
theorem grid_ok {lx ly hx hy : Rat} {k : Nat} (hk : 3 * k + 4 ≤ 200) (h1 : Sz k lx) (h2 : Sz k ly) (h3 : Sz k hx) (h4 : Sz k hy) (hlx : lx < hx) (hly : ly < hy) (c r : Nat) (hc : 0 < c) (hc2 : c ≤ 3) (hr : 0 < r) (hr2 : r ≤ 3) : MeshOK (gridP lx ly hx hy c r) (gridT c r) (3 * k + 4) := by
  refine MeshOK.of_form (by omega) hk (gridP_SzP h1 h2 h3 h4 c r hc (by omega) hr (by omega)) ?_ ?_ ?_
  · unfold gridP
    rw [gridPn_length]
    have := Nat.mul_le_mul (show r + 1 ≤ 4 by omega) (show c + 1 ≤ 4 by omega)
    omega
  · unfold gridT
    rw [gridTn_length]
    have := Nat.mul_le_mul hr2 hc2
    omega
  · rw [gridP_aff]
    have pos : ∀ (a b : Rat) (n : Nat), a < b → 0 < n → 0 < (b - a) / (n : Rat) := fun a b n hab hn => by
      have hn' : (0 : Rat) < (n : Rat) := by exact_mod_cast hn
      rw [Rat.div_def]
      exact Rat.mul_pos (by grind) (Rat.inv_pos.2 hn')
    refine form_aff _ _ _ _ (pos _ _ _ hlx hc) (pos _ _ _ hly hr) _ _ ?_
    obtain ⟨c', rfl⟩ : ∃ c', c = c' + 1 := ⟨c - 1, by omega⟩
    obtain ⟨r', rfl⟩ : ∃ r', r = r' + 1 := ⟨r - 1, by omega⟩
    exact gridN_form c' (by omega) r' (by omega)

end Go.Proofs.YtdhcliekejiegaaGreatDoor
