/- Plain: edges of meshes, turned. -/
import Derived.Test.YtccngnjkehibiaaGreatDoorM17
namespace Go.Proofs.YtccngnjkehibiaaGreatDoor
open Go.RowKit Go.Lib

theorem ownL_find (T : List Tri) (e : Edge) : (ownL T).find? (fun x => x.1 == e) = T.zipIdx.findSome? (fun x => if e ∈ sidesOf x.1 then some (e, (x.2 : Int)) else none) := by
  unfold ownL
  rw [List.find?_flatMap]
  congr 1
  funext x
  rw [List.find?_map]
  by_cases h : e ∈ sidesOf x.1
  · rw [if_pos h]
    cases hf : (sidesOf x.1).find? ((fun y : Edge × Int => y.1 == e) ∘ fun s => (s, (x.2 : Int))) with
    | none =>
      have := List.find?_eq_none.1 hf e h
      simp at this
    | some s =>
      have := List.find?_some hf
      simp at this
      rw [this]; rfl
  · rw [if_neg h]
    cases hf : (sidesOf x.1).find? ((fun y : Edge × Int => y.1 == e) ∘ fun s => (s, (x.2 : Int))) with
    | none => rfl
    | some s =>
      have h1 := List.find?_some hf
      have h2 := List.mem_of_find?_eq_some hf
      simp at h1
      rw [h1] at h2
      exact absurd h2 h

theorem zip_first (e : Edge) : ∀ (T : List Tri) (k i : Nat) (hi : i < T.length), (∀ (j : Nat) (hj : j < T.length), j < i → e ∉ sidesOf T[j]) → e ∈ sidesOf T[i] →
    (T.zipIdx k).findSome? (fun x => if e ∈ sidesOf x.1 then some (e, (x.2 : Int)) else none) = some (e, ((k + i : Nat) : Int)) := by
  intro T
  induction T with
  | nil => intro k i hi; exact absurd hi (Nat.not_lt_zero _)
  | cons t T ih =>
    intro k i hi h1 h2
    rw [List.zipIdx_cons, List.findSome?_cons]
    cases i with
    | zero =>
      have h3 : e ∈ sidesOf t := h2
      simp only [if_pos h3, Nat.add_zero]
    | succ i =>
      have h3 : e ∉ sidesOf t := h1 0 (Nat.succ_pos _) (Nat.succ_pos _)
      simp only [if_neg h3]
      rw [ih (k + 1) i (by simpa using hi) (fun j hj hji => h1 (j + 1) (by simpa using hj) (by omega)) h2, show k + 1 + i = k + (i + 1) by omega]

theorem ownL_at {T : List Tri} {x : Edge × Int} (h : x ∈ ownL T) : ∃ j : Nat, x.2 = (j : Int) ∧ j < T.length := by
  unfold ownL at h
  obtain ⟨y, hy, hx⟩ := List.mem_flatMap.1 h
  obtain ⟨s, _, rfl⟩ := List.mem_map.1 hx
  obtain ⟨_, h2, _⟩ := List.mem_zipIdx hy
  exact ⟨y.2, rfl, by omega⟩

/-- The triangle with a side from u to v, or -1. -/
def sideI (T : List Tri) (u v : Int) : Int := match (ownL T).find? (fun x => x.1 == (u, v)) with | some x => x.2 | none => -1
theorem sideI_mem {T : List Tri} {u v : Int} (h : (u, v) ∈ (ownL T).map (·.1)) : ((u, v), sideI T u v) ∈ ownL T := by
  unfold sideI
  cases e : (ownL T).find? (fun x => x.1 == (u, v)) with
  | none =>
    obtain ⟨x, hx, hx2⟩ := List.mem_map.1 h
    have := List.find?_eq_none.1 e x hx
    simp [hx2] at this
  | some x =>
    have h1 := List.mem_of_find?_eq_some e
    have h2 := List.find?_some e
    simp at h2
    rw [← h2]; exact h1
theorem sideI_out {T : List Tri} {u v : Int} (h : (u, v) ∉ (ownL T).map (·.1)) : sideI T u v = -1 := by
  unfold sideI
  cases e : (ownL T).find? (fun x => x.1 == (u, v)) with
  | none => rfl
  | some x =>
    have h1 := List.mem_of_find?_eq_some e
    have h2 := List.find?_some e
    simp at h2
    exact absurd (List.mem_map.2 ⟨x, h1, h2⟩) h
theorem sideI_first (T : List Tri) (u v : Int) (i : Nat) (hi : i < T.length) (h1 : ∀ (j : Nat) (hj : j < T.length), j < i → (u, v) ∉ sidesOf T[j]) (h2 : (u, v) ∈ sidesOf T[i]) : sideI T u v = (i : Int) := by
  unfold sideI
  rw [ownL_find, zip_first (u, v) T 0 i hi h1 h2, Nat.zero_add]
theorem sideI_none (T : List Tri) (u v : Int) (h1 : ∀ (j : Nat) (hj : j < T.length), (u, v) ∉ sidesOf T[j]) : sideI T u v = -1 := by
  refine sideI_out fun h => ?_
  rw [ownL_keys] at h
  unfold keysOf at h
  obtain ⟨t, ht, h2⟩ := List.mem_flatMap.1 h
  obtain ⟨j, hj, rfl⟩ := List.getElem_of_mem ht
  exact h1 j hj h2
theorem sideI_has {T : List Tri} {u v : Int} : (u, v) ∈ (ownL T).map (·.1) ↔ 0 ≤ sideI T u v := by
  constructor
  · intro h
    obtain ⟨j, hj, _⟩ := ownL_at (sideI_mem h)
    dsimp only at hj
    omega
  · intro h
    by_cases hm : (u, v) ∈ (ownL T).map (·.1)
    · exact hm
    · have := sideI_out hm
      omega
theorem sideI_lt {T : List Tri} {u v : Int} (h : 0 ≤ sideI T u v) : ∃ j : Nat, sideI T u v = (j : Int) ∧ j < T.length := ownL_at (sideI_mem (sideI_has.2 h))
theorem sideI_neg {T : List Tri} {u v : Int} (h : sideI T u v < 0) : sideI T u v = -1 := by
  by_cases hm : (u, v) ∈ (ownL T).map (·.1)
  · have := sideI_has.1 hm
    omega
  · exact sideI_out hm
/-- A side's points are in range. -/
theorem sideI_in {T : List Tri} {u v : Int} {n : Int} (h : 0 ≤ sideI T u v) (hI : ∀ t ∈ T, ∀ x ∈ idxOf t, 0 ≤ x ∧ x < n) : (0 ≤ u ∧ u < n) ∧ (0 ≤ v ∧ v < n) := by
  have h1 := sideI_has.2 h
  rw [ownL_keys] at h1
  unfold keysOf at h1
  obtain ⟨t, ht, h2⟩ := List.mem_flatMap.1 h1
  have h3 := hI t ht
  unfold sidesOf at h2
  simp [idxOf] at h2 h3
  obtain ⟨a1, a2, a3⟩ := h3
  rcases h2 with ⟨rfl, rfl⟩ | ⟨rfl, rfl⟩ | ⟨rfl, rfl⟩
  · exact ⟨a1, a2⟩
  · exact ⟨a2, a3⟩
  · exact ⟨a3, a1⟩

/-- The point of a triangle that is none of two others. -/
def thirdI (t : Tri) (u v : Int) : Int := if t.1 ≠ u ∧ t.1 ≠ v then t.1 else if t.2.1 ≠ u ∧ t.2.1 ≠ v then t.2.1 else if t.2.2 ≠ u ∧ t.2.2 ≠ v then t.2.2 else -1
/-- The triangles with an edge turned. -/
def turnT (T : List Tri) (i k : Nat) (u v p q : Int) : List Tri := (T.set (min i k) (u, q, p)).set (max i k) (q, v, p)

theorem turnZ_cyc (a b c : PtQ) : turnZ a b c = turnZ b c a := by
  unfold turnZ
  rw [show areaQ a b c = areaQ b c a by unfold areaQ; grind]
theorem turnZ_swap (a b c : PtQ) : turnZ a b c = -turnZ b a c := by
  unfold turnZ
  rw [show areaQ a b c = -areaQ b a c by unfold areaQ; grind, show (-areaQ b a c).num = -(areaQ b a c).num from rfl, Int.sign_neg]

/-- What a shape's edge needs for a turn. -/
def turnC (P : List PtQ) (T : List Tri) (i k : Nat) (u v p q : Int) (s t : Tri) : Prop :=
  i ≠ k ∧ s.1 + s.2.1 + s.2.2 - u - v = p ∧ t.1 + t.2.1 + t.2.2 - u - v = q ∧ (0 ≤ p ∧ p < (P.length : Int)) ∧ (0 ≤ q ∧ q < (P.length : Int)) ∧
    (0 < turnZ (ptI P u) (ptI P q) (ptI P p) → 0 < turnZ (ptI P q) (ptI P v) (ptI P p) → formB P (turnT T i k u v p q) = true)
instance (P : List PtQ) (T : List Tri) (i k : Nat) (u v p q : Int) (s t : Tri) : Decidable (turnC P T i k u v p q s t) := by unfold turnC; infer_instance
def turnB (P : List PtQ) (T : List Tri) (u v : Int) : Bool :=
  decide (sideI T u v < 0) || (decide (sideI T v u < 0) || decide (turnC P T (sideI T u v).toNat (sideI T v u).toNat u v (thirdI (T[(sideI T u v).toNat]?.getD (0, 0, 0)) u v) (thirdI (T[(sideI T v u).toNat]?.getD (0, 0, 0)) u v) (T[(sideI T u v).toNat]?.getD (0, 0, 0)) (T[(sideI T v u).toNat]?.getD (0, 0, 0))))
theorem turnB_get {P : List PtQ} {T : List Tri} {u v : Int} {i k : Nat} {s t : Tri} (h : turnB P T u v = true) (h1 : sideI T u v = (i : Int)) (h2 : sideI T v u = (k : Int)) (hs : T[i]? = some s) (ht : T[k]? = some t) : turnC P T i k u v (thirdI s u v) (thirdI t u v) s t := by
  unfold turnB at h
  rw [h1, h2, Int.toNat_natCast, Int.toNat_natCast, hs, ht, Option.getD_some, Option.getD_some, decide_eq_false (by omega), decide_eq_false (by omega), Bool.false_or, Bool.false_or] at h
  exact of_decide_eq_true h

theorem turnB_shape (k : Nat) : (List.range 6).all (fun u => (List.range 6).all fun v => !decide (u < v) || turnB (shapeQ k) (shapeT k) u v) = true := by
  unfold shapeQ shapeP shapeT
  split <;> decide +kernel

theorem sheetP_move (k : Nat) (s0 s1 : Int) (half : Bool) : sheetP k s0 s1 half = (shapeQ k).map (moveP (s0.tmod 8 : Int) (s1.tmod 8 : Int) (1 / (halfD half : Rat))) := by
  unfold sheetP shapeQ
  rw [List.map_map]
  refine List.map_congr_left fun p _ => ?_
  show (_, _) = moveP _ _ _ _
  unfold moveP
  rw [placeQ_move, placeQ_move]
theorem sheetP_Sz (k : Nat) (s0 s1 : Int) (half : Bool) : ∀ p ∈ sheetP k s0 s1 half, SzP 2 p := (sheet_ok k s0 s1 half).sz

/-- The facts that the walk wants: an edge with two triangles of a moved mesh. -/
theorem turn_facts0 (P0 : List PtQ) (T : List Tri) (a b d : Rat) (hd : 0 < d) (u v : Int) (hb2 : turnB P0 T u v = true) (hm : MeshOK (P0.map (moveP a b d)) T 2) (h1 : 0 ≤ sideI T u v) (h2 : 0 ≤ sideI T v u) :
    ∃ (i k : Nat) (s t : Tri) (p q : Nat), sideI T u v = (i : Int) ∧ sideI T v u = (k : Int) ∧ i ≠ k ∧ T[i]? = some s ∧ T[k]? = some t ∧ thirdI s u v = (p : Int) ∧ thirdI t u v = (q : Int) ∧
      s.1 + s.2.1 + s.2.2 - u - v = (p : Int) ∧ t.1 + t.2.1 + t.2.2 - u - v = (q : Int) ∧ p < (P0.map (moveP a b d)).length ∧ q < (P0.map (moveP a b d)).length ∧
      (0 < turnZ (ptI (P0.map (moveP a b d)) u) (ptI (P0.map (moveP a b d)) q) (ptI (P0.map (moveP a b d)) p) → 0 < turnZ (ptI (P0.map (moveP a b d)) q) (ptI (P0.map (moveP a b d)) v) (ptI (P0.map (moveP a b d)) p) →
        MeshOK (P0.map (moveP a b d)) (turnT T i k u v p q) 2) := by
  obtain ⟨i, hi, hil⟩ := sideI_lt h1
  obtain ⟨k, hk, hkl⟩ := sideI_lt h2
  have hin := sideI_in (n := ((P0.map (moveP a b d)).length : Int)) h1 hm.idx
  have hlen : (P0.map (moveP a b d)).length = P0.length := List.length_map _
  rw [hlen] at hin
  obtain ⟨b1, b2, b3, b4, b5, b6⟩ := turnB_get hb2 hi hk (List.getElem?_eq_getElem hil) (List.getElem?_eq_getElem hkl)
  obtain ⟨p, hp⟩ : ∃ p : Nat, thirdI T[i] u v = (p : Int) := ⟨_, (Int.toNat_of_nonneg b4.1).symm⟩
  obtain ⟨q, hq⟩ : ∃ q : Nat, thirdI T[k] u v = (q : Int) := ⟨_, (Int.toNat_of_nonneg b5.1).symm⟩
  rw [hp] at b2 b4 b6
  rw [hq] at b3 b5 b6
  refine ⟨i, k, T[i], T[k], p, q, hi, hk, b1, List.getElem?_eq_getElem hil, List.getElem?_eq_getElem hkl, hp, hq, b2, b3, by rw [hlen]; omega, by rw [hlen]; omega, ?_⟩
  have hpt : ∀ x : Int, 0 ≤ x → x < (P0.length : Int) → ptI (P0.map (moveP a b d)) x = moveP a b d (ptI P0 x) := fun x hx0 hx1 => by
    unfold ptI
    exact getD_move _ _ _ _ _ (by omega)
  rw [hpt u hin.1.1 hin.1.2, hpt v hin.2.1 hin.2.2, hpt p b4.1 b4.2, hpt q b5.1 b5.2, turnZ_move _ _ _ hd, turnZ_move _ _ _ hd]
  intro z1 z2
  refine MeshOK.of_form (by omega) (by omega) hm.sz hm.plen ?_ (form_move _ _ _ hd _ _ (b6 z1 z2))
  have := hm.tlen
  unfold turnT
  rw [List.length_set, List.length_set]
  exact this

/-- .. of a sheet. -/
theorem turn_facts (kk : Nat) (s0 s1 : Int) (half : Bool) (P : List PtQ) (hP : P = sheetP kk s0 s1 half) (T : List Tri) (hT : T = shapeT kk) (u v : Int) (huv : u < v) (h1 : 0 ≤ sideI T u v) (h2 : 0 ≤ sideI T v u) :
    ∃ (i k : Nat) (s t : Tri) (p q : Nat), sideI T u v = (i : Int) ∧ sideI T v u = (k : Int) ∧ i ≠ k ∧ T[i]? = some s ∧ T[k]? = some t ∧ thirdI s u v = (p : Int) ∧ thirdI t u v = (q : Int) ∧
      s.1 + s.2.1 + s.2.2 - u - v = (p : Int) ∧ t.1 + t.2.1 + t.2.2 - u - v = (q : Int) ∧ p < P.length ∧ q < P.length ∧
      (0 < turnZ (ptI P u) (ptI P q) (ptI P p) → 0 < turnZ (ptI P q) (ptI P v) (ptI P p) → MeshOK P (turnT T i k u v p q) 2) := by
  have hm := sheet_ok kk s0 s1 half
  have hb := turnB_shape kk
  have hl6 := shapeP_len kk
  have hl7 : (shapeQ kk).length ≤ 6 := by unfold shapeQ; rw [List.length_map]; exact hl6
  have hmv := sheetP_move kk s0 s1 half
  rw [← hT] at hm hb
  rw [hmv] at hm hP
  rw [hP]
  clear hmv hP hT hl6
  generalize shapeQ kk = P0 at *
  have hin := sideI_in (n := (P0.length : Int)) h1 (by have h := hm.idx; rwa [List.length_map] at h)
  rw [List.all_eq_true] at hb
  have hb1 := hb u.toNat (List.mem_range.2 (by omega))
  rw [List.all_eq_true] at hb1
  have hb2 := hb1 v.toNat (List.mem_range.2 (by omega))
  rw [decide_eq_true (show u.toNat < v.toNat by omega), Int.toNat_of_nonneg hin.1.1, Int.toNat_of_nonneg hin.2.1, Bool.not_true, Bool.false_or] at hb2
  exact turn_facts0 P0 T _ _ _ (by cases half <;> decide +kernel) u v hb2 hm h1 h2
end Go.Proofs.YtccngnjkehibiaaGreatDoor
