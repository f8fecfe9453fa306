/- Right sheets; klippelaw38.known; sizes of plans. -/
import Derived.Test.YtccngnjkehibiaaGreatDoorZ1
import Derived.Test.YtccngnjkehibiaaGreatDoorG5
import Derived.Test.YtccngnjkehibiaaGreatDoorK3
import Derived.Deep.RegionHeld3
import Derived.Deep.RegionLaw
import Derived.Deep.DeepCutAuto
/- Plain: the sheets are right meshes. -/
namespace Go.Proofs.YtccngnjkehibiaaGreatDoor
open Go.RowKit Go.Lib

def shapeQ (k : Nat) : List PtQ := (shapeP k).map fun p => ((p.1 : Rat), (p.2 : Rat))

/-- What of a right mesh hangs on its form alone. -/
def formB (P : List PtQ) (T : List Tri) : Bool :=
  !T.isEmpty && (decide P.Nodup && (T.all (fun t => (idxOf t).all fun x => decide (0 ≤ x ∧ x < (P.length : Int))) && (T.all (fun t => decide (0 < turnZ (P[t.1.toNat]?.getD (0, 0)) (P[t.2.1.toNat]?.getD (0, 0)) (P[t.2.2.toNat]?.getD (0, 0)))) &&
    (wholeB P T && (outerL (keysOf T)).all fun x => decide (0 ≤ x ∧ x < (P.length : Int))))))

theorem shape_form (k : Nat) : formB (shapeQ k) (shapeT k) = true := by
  unfold shapeQ shapeP shapeT
  split <;> decide +kernel
theorem square_form : formB squareP squareT = true := by decide +kernel

theorem getD_move (s t d : Rat) (P : List PtQ) (i : Nat) (h : i < P.length) : (P.map (moveP s t d))[i]?.getD (0, 0) = moveP s t d (P[i]?.getD (0, 0)) := by
  rw [List.getElem?_map, List.getElem?_eq_getElem h]; rfl
theorem ptAt_move (s t d : Rat) (P : List PtQ) (c : List Int) (hc : ∀ x ∈ c, 0 ≤ x ∧ x < (P.length : Int)) (hne : c ≠ []) (i : Nat) : ptAt (P.map (moveP s t d)) c i = moveP s t d (ptAt P c i) := by
  unfold ptAt
  have hl : i % c.length < c.length := Nat.mod_lt _ (List.length_pos_iff.2 hne)
  have := hc c[i % c.length] (List.getElem_mem hl)
  rw [List.getElem?_eq_getElem hl, Option.getD_some]
  exact getD_move s t d P _ (by omega)
theorem moveP_inj (s t d : Rat) (hd : 0 < d) {p q : PtQ} (h : moveP s t d p = moveP s t d q) : p = q := by
  unfold moveP at h
  have h1 := congrArg Prod.fst h
  have h2 := congrArg Prod.snd h
  dsimp only at h1 h2
  have key : ∀ a b z : Rat, (a + z) * d = (b + z) * d → a = b := fun a b z e => by
    have e1 : (a - b) * d = 0 := by grind
    rcases Rat.mul_eq_zero.1 e1 with e2 | e2
    · grind
    · rw [e2] at hd; exact absurd hd (Rat.lt_irrefl)
  exact Prod.ext (key _ _ _ h1) (key _ _ _ h2)

theorem form_move (s t d : Rat) (hd : 0 < d) (P : List PtQ) (T : List Tri) (h : formB P T = true) : formB (P.map (moveP s t d)) T = true := by
  unfold formB at *
  simp only [Bool.and_eq_true, List.all_eq_true, decide_eq_true_eq, List.length_map] at *
  obtain ⟨h1, h2, h3, h4, h5, h6⟩ := h
  have hin : ∀ t ∈ T, ∀ x ∈ idxOf t, x.toNat < P.length := fun t ht x hx => by have := h3 t ht x hx; omega
  refine ⟨h1, ?_, h3, ?_, ?_, h6⟩
  · exact List.Pairwise.map _ (fun a b hab e => hab (moveP_inj s t d hd e)) h2
  · intro tr htr
    have i0 := hin tr htr tr.1 (by simp [idxOf])
    have i1 := hin tr htr tr.2.1 (by simp [idxOf])
    have i2 := hin tr htr tr.2.2 (by simp [idxOf])
    rw [getD_move _ _ _ _ _ i0, getD_move _ _ _ _ _ i1, getD_move _ _ _ _ _ i2, turnZ_move s t d hd]
    exact h4 tr htr
  · unfold wholeB at *
    simp only [Bool.and_eq_true, List.length_map] at *
    refine ⟨h5.1, ⟨h5.2.1.1, h5.2.1.2⟩, ?_⟩
    have hne : outerL (keysOf T) ≠ [] := by
      have := h5.2.1.1
      intro e
      rw [e] at this
      simp at this
    have hpt := ptAt_move s t d P (outerL (keysOf T)) h6 hne
    rw [← h5.2.2]
    unfold onceB roundsN
    have e1 : bentAt (P.map (moveP s t d)) (outerL (keysOf T)) = bentAt P (outerL (keysOf T)) := funext fun i => by unfold bentAt; rw [hpt, hpt, hpt, turnZ_move s t d hd]
    have e2 : riseAt (P.map (moveP s t d)) (outerL (keysOf T)) = riseAt P (outerL (keysOf T)) := funext fun i => by unfold riseAt upAt; rw [hpt, hpt, hpt, upB_move s t d hd, upB_move s t d hd]
    rw [e1, e2]

theorem MeshOK.of_form {P : List PtQ} {T : List Tri} {k : Nat} (hk : 0 < k) (hk2 : k ≤ 200) (hs : ∀ p ∈ P, SzP k p) (hp : P.length ≤ 400) (ht : T.length ≤ 800) (h : formB P T = true) : MeshOK P T k := by
  unfold formB at h
  simp only [Bool.and_eq_true, List.all_eq_true, decide_eq_true_eq] at h
  obtain ⟨h1, h2, h3, h4, h5, h6⟩ := h
  exact { kpos := hk, klim := by omega, sz := hs, plen := hp, tlen := ht, idx := h3, klim2 := hk2, some := by intro e; rw [e] at h1; simp at h1, apart := h2, turns := h4, whole := h5 }

theorem placeQ_move (s : Int) (half : Bool) (x : Int) : placeQ s half x = ((x : Rat) + (s.tmod 8 : Int)) * (1 / (halfD half : Rat)) := by
  unfold placeQ
  have h0 : (halfD half : Rat) ≠ 0 := by cases half <;> decide
  rw [Rat.mkRat_eq_div]
  grind
theorem placeQ_Sz (s : Int) (half : Bool) (x : Int) (hx : 0 ≤ x ∧ x ≤ 6) : Sz 2 (placeQ s half x) := by
  have := tmod8_bound s
  exact Sz.mkRat (by cases half <;> decide) (by omega) (by cases half <;> decide)

theorem sheet_ok (k : Nat) (s0 s1 : Int) (half : Bool) : MeshOK (sheetP k s0 s1 half) (shapeT k) 2 := by
  refine MeshOK.of_form (by omega) (by omega) ?_ ?_ ?_ ?_
  · intro p hp
    obtain ⟨q, hq, rfl⟩ := List.mem_map.1 hp
    have := shapeP_small k q hq
    exact ⟨placeQ_Sz _ _ _ this.1, placeQ_Sz _ _ _ this.2⟩
  · unfold sheetP
    have := shapeP_len k
    rw [List.length_map]; omega
  · unfold shapeT
    split <;> decide
  · have e : sheetP k s0 s1 half = (shapeQ k).map (moveP (s0.tmod 8 : Int) (s1.tmod 8 : Int) (1 / (halfD half : Rat))) := by
      unfold sheetP shapeQ
      rw [List.map_map]
      refine List.map_congr_left fun p _ => ?_
      show (_, _) = moveP _ _ _ _
      unfold moveP
      rw [placeQ_move, placeQ_move]
    rw [e]
    exact form_move _ _ _ (by cases half <;> decide +kernel) _ _ (shape_form k)
theorem square_ok : MeshOK squareP squareT 1 := by
  refine MeshOK.of_form (by omega) (by omega) ?_ (by decide) (by decide) square_form
  intro p hp
  unfold squareP at hp
  simp only [List.mem_cons, List.not_mem_nil, or_false] at hp
  have h0 : Sz 1 (0 : Rat) := Sz.zero 1 (by omega)
  have h4 : Sz 1 (4 : Rat) := ⟨by decide, by decide⟩
  rcases hp with rfl | rfl | rfl | rfl
  · exact ⟨h0, h0⟩
  · exact ⟨h4, h0⟩
  · exact ⟨h4, h4⟩
  · exact ⟨h0, h4⟩

end Go.Proofs.YtccngnjkehibiaaGreatDoor

/- The walk over klippelaw38.known. -/
namespace Go.Proofs.YtccngnjkehibiaaGreatDoor
open Go.RowKit Go.Lib

def f0000 : List Rat := [0, 0, 0, 0]
def f2222 : List Rat := [2, 2, 2, 2]
def f0330 : List Rat := [0, 3, 3, 0]
def f5885 : List Rat := [5, 8, 8, 5]
theorem kn_slope1 : slopeT squareP f0000 (0, 1, 2) = (0, 0) ∧ slopeT squareP f2222 (0, 1, 2) = (0, 0) := by decide +kernel
theorem kn_rise : riseQ (0, 0) 1 0 1 = 1 ∧ (2 : Rat) / 1 = 2 ∧ (2 : Rat) = hI f2222 0 - hI f0000 0 := by decide +kernel
theorem kn_mean : allM squareP squareT ≠ 0 ∧ meanQ squareP (difQ f0000 f2222) squareT = 2 := by decide +kernel
theorem kn_slope2 : slopeT squareP f0330 (0, 2, 3) = (3 / 4, 0) ∧ slopeT squareP f5885 (0, 2, 3) = (3 / 4, 0) := by decide +kernel
theorem kn_sq : sqQ 5 (3 / 4, 0) = 16 ∧ (5 : Rat) = hI f5885 0 - hI f0330 0 := by decide +kernel
theorem sz1 (n : Nat) (h : n < 10) : Sz 1 ((n : Int) : Rat) := ⟨by rw [Rat.num_intCast]; omega, by rw [Rat.den_intCast]; omega⟩
theorem sz_field (l : List Nat) (h : ∀ n ∈ l, n < 10) : ∀ q ∈ l.map (fun n : Nat => ((n : Int) : Rat)), Sz 1 q := by
  intro q hq
  obtain ⟨n, hn, rfl⟩ := List.mem_map.1 hq
  exact sz1 n (h n hn)

theorem pair_of {w : World} {vp vt vl vu : Value} {L U : List Rat} (hp : RdP w vp (strP squareP)) (ht : RdT w vt squareT) (hl : RdQ w vl L) (hu : RdQ w vu U) (h1 : L.length = 4) (h2 : U.length = 4) (h3 : ∀ q ∈ L, Sz 1 q) (h4 : ∀ q ∈ U, Sz 1 q) : PairIn w vp vt vl vu squareP squareT 1 L U :=
  ⟨⟨hp, ht, square_ok, hl, h3, by rw [h1]; rfl⟩, ⟨hp, ht, square_ok, hu, h4, by rw [h2]; rfl⟩⟩

end Go.Proofs.YtccngnjkehibiaaGreatDoor

/- The walk over klippelaw38.Make. -/
namespace Go.Proofs.YtccngnjkehibiaaGreatDoor
open Go.RowKit Go.Lib

/-- The plan's pair. -/
def raiseQ (add : Int) (z : Rat) : Rat := z + mkRat (add.tmod 12) 2
def planL (k : Nat) (hs : List Int) (half : Bool) : List Rat := heightsF hs half (shapeP k).length
def planU (k : Nat) (hs : List Int) (half : Bool) (hs2 : List Int) (half2 : Bool) (even : Bool) (add : Int) : List Rat := if even then (planL k hs half).map (raiseQ add) else heightsF hs2 half2 (shapeP k).length

theorem heights_Sz (hs : List Int) (half : Bool) (n : Nat) : ∀ q ∈ heightsF hs half n, Sz 2 q := fun q hq => by
  obtain ⟨i, _, rfl⟩ := List.mem_map.1 hq
  unfold heightQ
  have := tmod20_bound (hs[i % 6]?.getD 0)
  exact Sz.mkRat (by cases half <;> decide) (by omega) (by cases half <;> decide)
theorem tmod12_bound (s : Int) : -11 ≤ s.tmod 12 ∧ s.tmod 12 ≤ 11 := by
  rcases Int.le_total 0 s with h | h
  · rw [Int.tmod_eq_emod_of_nonneg h]; omega
  · have h1 : s.tmod 12 = -((-s).tmod 12) := by rw [Int.neg_tmod]; omega
    rw [h1, Int.tmod_eq_emod_of_nonneg (by omega)]
    omega
theorem raise_Sz (add : Int) (hs : List Int) (half : Bool) (n : Nat) : ∀ q ∈ (heightsF hs half n).map (raiseQ add), Sz 2 q := fun q hq => by
  obtain ⟨z, hz, rfl⟩ := List.mem_map.1 hq
  obtain ⟨i, _, rfl⟩ := List.mem_map.1 hz
  unfold heightQ raiseQ
  have h1 := tmod20_bound (hs[i % 6]?.getD 0)
  have h2 := tmod12_bound add
  generalize (hs[i % 6]?.getD 0).tmod 20 = a at *
  generalize add.tmod 12 = b at *
  have key : mkRat a (halfD half) + mkRat b 2 = mkRat ((if half then a else 2 * a) + b) 2 := by
    cases half
    · show mkRat a 1 + mkRat b 2 = mkRat (2 * a + b) 2
      rw [Rat.mkRat_eq_div, Rat.mkRat_eq_div, Rat.mkRat_eq_div]
      push_cast
      grind
    · show mkRat a 2 + mkRat b 2 = mkRat (a + b) 2
      rw [Rat.mkRat_eq_div, Rat.mkRat_eq_div, Rat.mkRat_eq_div]
      push_cast
      grind
  rw [key]
  exact Sz.mkRat (by decide) (by cases half <;> simp <;> omega) (by decide)
theorem planU_Sz (k : Nat) (hs : List Int) (half : Bool) (hs2 : List Int) (half2 : Bool) (even : Bool) (add : Int) : ∀ q ∈ planU k hs half hs2 half2 even add, Sz 2 q := by
  unfold planU planL
  cases even
  · exact heights_Sz _ _ _
  · exact raise_Sz _ _ _ _
theorem planL_length (k : Nat) (hs : List Int) (half : Bool) : (planL k hs half).length = (shapeP k).length := heightsF_length _ _ _
theorem planU_length (k : Nat) (hs : List Int) (half : Bool) (hs2 : List Int) (half2 : Bool) (even : Bool) (add : Int) : (planU k hs half hs2 half2 even add).length = (shapeP k).length := by
  unfold planU
  cases even
  · exact heightsF_length _ _ _
  · simp [planL_length]

theorem sheetP_length (k : Nat) (s0 s1 : Int) (half : Bool) : (sheetP k s0 s1 half).length = (shapeP k).length := by simp [sheetP]

end Go.Proofs.YtccngnjkehibiaaGreatDoor

/- Plain: sizes of slopes; texts of at most 20 bytes. -/
namespace Go.Proofs.YtccngnjkehibiaaGreatDoor
open Go.RowKit Go.Lib

theorem slope_Sz {P : List PtQ} {T : List Tri} {k : Nat} (hm : MeshOK P T k) (hk : k = 2) {F : List Rat} (hF : ∀ q ∈ F, Sz 2 q) {tr : Tri} (htr : tr ∈ T) : SzP 43 (slopeT P F tr) := by
  subst hk
  have hidx := hm.idx tr htr
  have hp : ∀ z ∈ idxOf tr, SzP 2 (ptI P z) := fun z hz => by
    obtain ⟨h0, h1⟩ := hidx z hz
    obtain ⟨q, rfl⟩ : ∃ q : Nat, z = (q : Int) := ⟨z.toNat, by omega⟩
    rw [ptI_nat P q (by omega)]
    exact hm.sz _ (List.getElem_mem _)
  have h0 := hp tr.1 (by simp [idxOf])
  have h1 := hp tr.2.1 (by simp [idxOf])
  have h2 := hp tr.2.2 (by simp [idxOf])
  have f0 := hI_Sz (by omega) hF tr.1
  have f1 := hI_Sz (by omega) hF tr.2.1
  have f2 := hI_Sz (by omega) hF tr.2.2
  have mn : ∀ {a b c d : Rat}, Sz 5 a → Sz 5 b → Sz 5 c → Sz 5 d → Sz 21 (minorQ a b c d) := fun ha hb hc hd => ((ha.mul hd).sub (hb.mul hc)).mono (by omega)
  have dx1 := h1.1.sub h0.1
  have dy1 := h1.2.sub h0.2
  have dx2 := h2.1.sub h0.1
  have dy2 := h2.2.sub h0.2
  have g1 := f1.sub f0
  have g2 := f2.sub f0
  have md := mn dx1 dy1 dx2 dy2
  have m1 := mn g1 dy1 g2 dy2
  have m2 := mn dx1 g1 dx2 g2
  have iv := Sz.one.div md (by omega)
  unfold slopeT slopeQ
  exact ⟨(iv.mul m1).mono (by omega), (iv.mul m2).mono (by omega)⟩

/-- A right text of at most 20 bytes is a number of at most 20 digits. -/
theorem right20 {s : ByteArray} (h : rightQ s.data.toList = true) (hl : s.size ≤ 20) : ∃ q : Rat, s = RS q ∧ Sz 40 q := by
  obtain ⟨q, hq, _⟩ := rightQ_val h
  have hs : s = RS q := by
    have : s.data = (RL q).toArray := by rw [← hq]
    unfold RS
    rw [← this]
  refine ⟨q, hs, ?_⟩
  have hlen : (RL q).length ≤ 20 := by
    have h1 : s.data.toList.length = s.size := by rw [Array.length_toList]; rfl
    rw [hq] at h1
    omega
  have key : ∀ n : Nat, (decDigits n).length ≤ 20 → n < 10 ^ 40 := fun n h => Nat.lt_of_lt_of_le ((len_decDigits_le n 20 (by omega)).1 h) (by decide)
  have hn : (itoa q.num).length ≤ 20 → q.num.natAbs < 10 ^ 40 := fun h => by
    rw [itoa_len] at h
    exact key _ (by rw [decDigits_length]; omega)
  unfold RL at hlen
  by_cases h1 : q.den = 1
  · rw [if_pos h1] at hlen
    exact ⟨hn hlen, by rw [h1]; decide⟩
  · rw [if_neg h1, List.length_append, List.length_cons] at hlen
    exact ⟨hn (by omega), key _ (by omega)⟩
/-- .. and has at most 20 digits. -/
theorem right20' {s : ByteArray} (h : rightQ s.data.toList = true) (hl : s.size ≤ 20) : ∃ q : Rat, s = RS q ∧ Sz 20 q := by
  obtain ⟨q, hs, _⟩ := right20 h hl
  refine ⟨q, hs, ?_⟩
  have hlen : (RL q).length ≤ 20 := by
    have h1 : s.data.toList.length = s.size := by rw [Array.length_toList]; rfl
    rw [hs, RS_list, ← hs] at h1
    omega
  have key : ∀ n : Nat, (decDigits n).length ≤ 20 → n < 10 ^ 20 := fun n h => (len_decDigits_le n 20 (by omega)).1 h
  have hn : (itoa q.num).length ≤ 20 → q.num.natAbs < 10 ^ 20 := fun h => by
    rw [itoa_len] at h
    exact key _ (by rw [decDigits_length]; omega)
  unfold RL at hlen
  by_cases h1 : q.den = 1
  · rw [if_pos h1] at hlen
    exact ⟨hn hlen, by rw [h1]; decide⟩
  · rw [if_neg h1, List.length_append, List.length_cons] at hlen
    exact ⟨hn (by omega), key _ (by omega)⟩
/-- The size of the thickness along a direction. -/
theorem toward_Sz {S : PtQ} {d x y z : Rat} (hS : SzP 43 S) (hd : Sz 5 d) (hx : Sz 20 x) (hy : Sz 20 y) (hz : Sz 20 z) : Sz 200 (d / riseQ S x y z) := by
  unfold riseQ
  have m1 := hS.1.mul hx
  have m2 := hS.2.mul hy
  have m3 := hz.sub (m1.add m2)
  exact (hd.div m3 (by omega)).mono (by omega)

end Go.Proofs.YtccngnjkehibiaaGreatDoor
