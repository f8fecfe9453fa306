/- klippelaw12.MeshCounts returns true: any sheet, any number of an edge. -/
import Derived.Test.YtccngnjkehibiaaGreatDoorM28
import Derived.Test.YtccngnjkehibiaaGreatDoorM24
import Derived.Test.YtccngnjkehibiaaGreatDoorM35
import Derived.Test.YtccngnjkehibiaaGreatDoorM10
import Derived.BigRegion
namespace Go.Proofs.YtccngnjkehibiaaGreatDoor
open Go.RowKit Go.Lib

theorem thirdI_comm (t : Tri) (u v : Int) : thirdI t u v = thirdI t v u := by
  unfold thirdI
  simp only [and_comm]
/-- The last edge of a list that a mesh lacks. -/
def newE (T : List Tri) (l : List Edge) : Edge := l.foldl (fun c e => if sideI T e.1 e.2 < 0 ∧ sideI T e.2 e.1 < 0 then e else c) (-1, -1)
/-- The same triangles, up to where they begin. -/
def backB (T T2 : List Tri) : Bool := T.all fun t => decide (0 ≤ sideI T2 t.1 t.2.1) && decide (sideI T2 t.1 t.2.1 = sideI T2 t.2.1 t.2.2)
/-- The data of a turn. -/
def trI (T : List Tri) (u v : Int) : Nat := (sideI T u v).toNat
def trP (T : List Tri) (u v : Int) : Int := thirdI (T[trI T u v]?.getD (0, 0, 0)) u v
def trT (T : List Tri) (u v : Int) : List Tri := turnT T (trI T u v) (trI T v u) u v (trP T u v) (trP T v u)
/-- It may be turned. -/
def mayB (P : List PtQ) (T : List Tri) (u v : Int) : Bool := decide (0 < turnZ (ptI P u) (ptI P (trP T v u)) (ptI P (trP T u v))) && decide (0 < turnZ (ptI P (trP T v u)) (ptI P v) (ptI P (trP T u v)))
/-- All that the law asks of an edge that has been turned. -/
def cntB (P : List PtQ) (T : List Tri) (u v : Int) : Bool :=
  decide (sideI T u v < 0) || (decide (sideI T v u < 0) || (!mayB P T u v ||
    (decide (sumA P (trT T u v) T.length = sumA P T T.length) && (decide ((edgesL (keysOf (trT T u v))).length = (edgesL (keysOf T)).length) && (decide ((edgesU (keysOf (trT T u v))).length = (edgesU (keysOf T)).length) &&
     (let e := newE T (edgesL (keysOf (trT T u v)))
      decide (0 ≤ e.1 ∧ e.1 < e.2 ∧ e.2 < (P.length : Int)) && (decide (0 ≤ sideI (trT T u v) e.1 e.2) && (decide (0 ≤ sideI (trT T u v) e.2 e.1) && (turnB P (trT T u v) e.1 e.2 && (mayB P (trT T u v) e.1 e.2 && backB T (trT (trT T u v) e.1 e.2)))))))))))
set_option maxRecDepth 100000 in
theorem cnt_shape (k : Nat) : (List.range 6).all (fun u => (List.range 6).all fun v => !decide (u < v) || cntB (shapeQ k) (shapeT k) u v) = true := by
  unfold shapeQ shapeP shapeT
  split <;> decide +kernel
/-- What the law asks of all edges. -/
def sumB (P : List PtQ) (T : List Tri) : Bool :=
  decide ((edgesL (keysOf T)).length + 1 = P.length + T.length) && (decide (0 < (edgesU (keysOf T)).length) && (decide ((edgesU (keysOf T)).length ≤ 12) && (decide (0 < (edgesL (keysOf T)).length) &&
    (edgesL (keysOf T)).all fun e => decide (0 ≤ e.1 ∧ e.1 < e.2 ∧ e.2 < (P.length : Int)) && decide (0 ≤ sideI T e.1 e.2 ∨ 0 ≤ sideI T e.2 e.1))))
theorem sum_shape (k : Nat) : sumB (shapeQ k) (shapeT k) = true := by
  unfold shapeQ shapeP shapeT
  split <;> decide +kernel

theorem sumA_move (s t d : Rat) (P : List PtQ) (T : List Tri) (hx : ∀ t ∈ T, ∀ x ∈ idxOf t, 0 ≤ x ∧ x < (P.length : Int)) (n : Nat) : sumA (P.map (moveP s t d)) T n = d * d * sumA P T n := by
  induction n with
  | zero => show (0 : Rat) = d * d * 0; grind
  | succ n ih =>
    unfold sumA
    rw [ih]
    cases h : T[n]? with
    | none => dsimp only; grind
    | some tr =>
      have htr := List.mem_of_getElem? h
      have i0 := hx tr htr tr.1 (by simp [idxOf])
      have i1 := hx tr htr tr.2.1 (by simp [idxOf])
      have i2 := hx tr htr tr.2.2 (by simp [idxOf])
      dsimp only
      have e : ∀ x : Int, 0 ≤ x → x < (P.length : Int) → ptI (P.map (moveP s t d)) x = moveP s t d (ptI P x) := fun x h0 h1 => by unfold ptI; exact getD_move _ _ _ _ _ (by omega)
      rw [e _ i0.1 i0.2, e _ i1.1 i1.2, e _ i2.1 i2.2, areaQ_move]
      grind
/-- What the walk wants of an edge with two triangles. -/
structure CntF (P : List PtQ) (T : List Tri) (u v : Int) (i k : Nat) (p q : Nat) : Prop where
  ok : MeshOK P (turnT T i k u v p q) 2
  area : sumA P (turnT T i k u v p q) T.length = sumA P T T.length
  len : (edgesL (keysOf (turnT T i k u v p q))).length = (edgesL (keysOf T)).length
  lenU : (edgesU (keysOf (turnT T i k u v p q))).length = (edgesU (keysOf T)).length
  back : ∃ (u2 v2 : Int) (i2 k2 : Nat) (s2 t2 : Tri) (p2 q2 : Nat), newE T (edgesL (keysOf (turnT T i k u v p q))) = (u2, v2) ∧ (0 ≤ u2 ∧ u2 < v2 ∧ v2 < (P.length : Int)) ∧
    sideI (turnT T i k u v p q) u2 v2 = (i2 : Int) ∧ sideI (turnT T i k u v p q) v2 u2 = (k2 : Int) ∧ i2 ≠ k2 ∧ (turnT T i k u v p q)[i2]? = some s2 ∧ (turnT T i k u v p q)[k2]? = some t2 ∧
    s2.1 + s2.2.1 + s2.2.2 - u2 - v2 = (p2 : Int) ∧ t2.1 + t2.2.1 + t2.2.2 - u2 - v2 = (q2 : Int) ∧ p2 < P.length ∧ q2 < P.length ∧
    0 < turnZ (ptI P u2) (ptI P q2) (ptI P p2) ∧ 0 < turnZ (ptI P q2) (ptI P v2) (ptI P p2) ∧ backB T (turnT (turnT T i k u v p q) i2 k2 u2 v2 p2 q2) = true
theorem cnt_facts (kk : Nat) (s0 s1 : Int) (half : Bool) (P : List PtQ) (hP : P = sheetP kk s0 s1 half) (T : List Tri) (hT : T = shapeT kk) (u v : Int) (huv : u < v) (h1 : 0 ≤ sideI T u v) (h2 : 0 ≤ sideI T v u) :
    ∃ (i k : Nat) (s t : Tri) (p q : Nat), sideI T u v = (i : Int) ∧ sideI T v u = (k : Int) ∧ i ≠ k ∧ T[i]? = some s ∧ T[k]? = some t ∧
      s.1 + s.2.1 + s.2.2 - u - v = (p : Int) ∧ t.1 + t.2.1 + t.2.2 - u - v = (q : Int) ∧ p < P.length ∧ q < P.length ∧
      (0 < turnZ (ptI P u) (ptI P q) (ptI P p) → 0 < turnZ (ptI P q) (ptI P v) (ptI P p) → CntF P T u v i k p q) := by
  obtain ⟨i, k, s, t, p, q, a1, a2, a3, a4, a5, a6, a7, a8, a9, a10, a11, a12⟩ := turn_facts kk s0 s1 half P hP T hT u v huv h1 h2
  refine ⟨i, k, s, t, p, q, a1, a2, a3, a4, a5, a8, a9, a10, a11, fun z1 z2 => ?_⟩
  have hok := a12 z1 z2
  have hm := sheet_ok kk s0 s1 half
  have hc := cnt_shape kk
  have hl6 := shapeP_len kk
  have hl7 : (shapeQ kk).length ≤ 6 := by unfold shapeQ; rw [List.length_map]; exact hl6
  have hmv := sheetP_move kk s0 s1 half
  rw [← hT] at hm hc
  rw [hmv] at hm hP
  rw [hP] at hok z1 z2 a10 a11 ⊢
  clear hmv hP hT hl6 a12
  have hd : (0 : Rat) < 1 / (halfD half : Rat) := by cases half <;> decide +kernel
  generalize shapeQ kk = P0 at *
  generalize (1 / (halfD half : Rat)) = d at *
  generalize ((s0.tmod 8 : Int) : Rat) = x at *
  generalize ((s1.tmod 8 : Int) : Rat) = y at *
  have hlen : (P0.map (moveP x y d)).length = P0.length := List.length_map _
  have hidx := hm.idx
  rw [hlen] at hidx a10 a11
  have hin := sideI_in (n := (P0.length : Int)) h1 hidx
  rw [List.all_eq_true] at hc
  have hc1 := hc u.toNat (List.mem_range.2 (by omega))
  rw [List.all_eq_true] at hc1
  have hc2 := hc1 v.toNat (List.mem_range.2 (by omega))
  rw [decide_eq_true (show u.toNat < v.toNat by omega), Int.toNat_of_nonneg hin.1.1, Int.toNat_of_nonneg hin.2.1, Bool.not_true, Bool.false_or] at hc2
  have e : ∀ z : Int, 0 ≤ z → z < (P0.length : Int) → ptI (P0.map (moveP x y d)) z = moveP x y d (ptI P0 z) := fun z g0 g1 => by unfold ptI; exact getD_move _ _ _ _ _ (by omega)
  have ep : trP T u v = (p : Int) := by unfold trP trI; rw [a1, Int.toNat_natCast, a4]; exact a6
  have eq : trP T v u = (q : Int) := by
    unfold trP trI; rw [a2, Int.toNat_natCast, a5, Option.getD_some, thirdI_comm]; exact a7
  have et : trT T u v = turnT T i k u v p q := by unfold trT; rw [ep, eq]; unfold trI; rw [a1, a2, Int.toNat_natCast, Int.toNat_natCast]
  rw [e u hin.1.1 hin.1.2, e q (by omega) (by omega), e p (by omega) (by omega), turnZ_move _ _ _ hd] at z1
  rw [e v hin.2.1 hin.2.2, e q (by omega) (by omega), e p (by omega) (by omega), turnZ_move _ _ _ hd] at z2
  unfold cntB at hc2
  have hmay : mayB P0 T u v = true := by unfold mayB; rw [ep, eq, decide_eq_true z1, decide_eq_true z2]; rfl
  rw [decide_eq_false (show ¬ sideI T u v < 0 by omega), decide_eq_false (show ¬ sideI T v u < 0 by omega), hmay, et] at hc2
  simp only [Bool.false_or, Bool.not_true, Bool.and_eq_true, decide_eq_true_eq] at hc2
  obtain ⟨c1, c2, c3, c4, c5, c6, c7, c8, c9⟩ := hc2
  have hidx2 := hok.idx
  rw [hlen] at hidx2
  obtain ⟨⟨u2, v2⟩, he⟩ : ∃ e, e = newE T (edgesL (keysOf (turnT T i k u v p q))) := ⟨_, rfl⟩
  rw [← he] at c4 c5 c6 c7 c8 c9
  dsimp only at c4 c5 c6 c7 c8 c9
  obtain ⟨i2, k2, s2, t2, p2, q2, b1, b2, b3, b4, b5, b6, b7, b8, b9, b10, b11, _⟩ := turn_facts0 P0 (turnT T i k u v p q) x y d hd u2 v2 c7 hok c5 c6
  rw [hlen] at b10 b11
  have ep2 : trP (turnT T i k u v p q) u2 v2 = (p2 : Int) := by unfold trP trI; rw [b1, Int.toNat_natCast, b4]; exact b6
  have eq2 : trP (turnT T i k u v p q) v2 u2 = (q2 : Int) := by
    unfold trP trI; rw [b2, Int.toNat_natCast, b5, Option.getD_some, thirdI_comm]; exact b7
  have et2 : trT (turnT T i k u v p q) u2 v2 = turnT (turnT T i k u v p q) i2 k2 u2 v2 p2 q2 := by unfold trT; rw [ep2, eq2]; unfold trI; rw [b1, b2, Int.toNat_natCast, Int.toNat_natCast]
  unfold mayB at c8
  rw [ep2, eq2, Bool.and_eq_true, decide_eq_true_eq, decide_eq_true_eq] at c8
  rw [et2] at c9
  refine ⟨hok, ?_, c2, c3, u2, v2, i2, k2, s2, t2, p2, q2, he.symm, by rw [hlen]; exact c4, b1, b2, b3, b4, b5, b8, b9, by rw [hlen]; exact b10, by rw [hlen]; exact b11, ?_, ?_, c9⟩
  · rw [sumA_move _ _ _ _ _ hidx2, sumA_move _ _ _ _ _ hidx, c1]
  · rw [e u2 (by omega) (by omega), e q2 (by omega) (by omega), e p2 (by omega) (by omega), turnZ_move _ _ _ hd]; exact c8.1
  · rw [e v2 (by omega) (by omega), e q2 (by omega) (by omega), e p2 (by omega) (by omega), turnZ_move _ _ _ hd]; exact c8.2
/-- .. of all edges. -/
theorem sum_facts (kk : Nat) (s0 s1 : Int) (half : Bool) (P : List PtQ) (hP : P = sheetP kk s0 s1 half) (T : List Tri) (hT : T = shapeT kk) :
    (edgesL (keysOf T)).length + 1 = P.length + T.length ∧ 0 < (edgesU (keysOf T)).length ∧ (edgesU (keysOf T)).length ≤ 12 ∧ 0 < (edgesL (keysOf T)).length ∧
    ∀ e ∈ edgesL (keysOf T), (0 ≤ e.1 ∧ e.1 < e.2 ∧ e.2 < (P.length : Int)) ∧ (0 ≤ sideI T e.1 e.2 ∨ 0 ≤ sideI T e.2 e.1) := by
  have h := sum_shape kk
  rw [← hT] at h
  have hlen : P.length = (shapeQ kk).length := by rw [hP, sheetP_length]; simp [shapeQ]
  unfold sumB at h
  simp only [Bool.and_eq_true, decide_eq_true_eq, List.all_eq_true] at h
  rw [hlen]
  exact ⟨h.1, h.2.1, h.2.2.1, h.2.2.2.1, h.2.2.2.2⟩

end Go.Proofs.YtccngnjkehibiaaGreatDoor

namespace Go.Proofs.YtccngnjkehibiaaGreatDoor
open Go.RowKit Go.Lib

def CTurn (P : List PtQ) (T : List Tri) (u v : Int) (vp vt : Value) (g : Int) (w : World) : Prop :=
  (g = 25 ∨ g = 7) ∨ (g = 0 ∧ ∃ (i k p q : Nat), CntF P T u v i k p q ∧ RdP w vp (strP P) ∧ RdT w vt (turnT T i k u v p q))
theorem meshI {P : List PtQ} {T : List Tri} {m : Nat} (hm : MeshOK P T m) : ∀ t ∈ T, InI t.1 ∧ InI t.2.1 ∧ InI t.2.2 := fun t ht => by
  have hl := hm.plen
  have key : ∀ x ∈ idxOf t, InI x := fun x hx => by
    have := hm.idx t ht x hx
    unfold InI
    omega
  exact ⟨key _ (by simp [idxOf]), key _ (by simp [idxOf]), key _ (by simp [idxOf])⟩
theorem meshSm {P : List PtQ} {T : List Tri} {m : Nat} (hm : MeshOK P T m) : ∀ s ∈ keysOf T, SmE s := fun s hs => by
  have hl := hm.plen
  obtain ⟨t, ht, h1, h2⟩ := keysOf_mem hs
  have a := hm.idx t ht _ h1
  have b := hm.idx t ht _ h2
  exact ⟨⟨by omega, by omega⟩, by omega, by omega⟩
theorem cturn_any (w : World) (vp vt : Value) (kk : Nat) (s0 s1 : Int) (half : Bool) (P : List PtQ) (hP : P = sheetP kk s0 s1 half) (T : List Tri) (hT : T = shapeT kk) (hp : RdP w vp (strP P)) (ht : RdT w vt T) (u v : Int) (he : (u, v) ∈ edgesL (keysOf T)) (hg : Good w) :
    Calls Tryz.prog 35 #[.agg #[vp, vt], .agg #[.int .i64 u, .int .i64 v]] w (Ret (fun r w' => ∃ p1 n1 c1 p2 n2 c2 g, r = .tuple #[.agg #[.slice p1 n1 c1, .slice p2 n2 c2], .int .i64 g] ∧ CTurn P T u v (.slice p1 n1 c1) (.slice p2 n2 c2) g w') w) := by
  have hm : MeshOK P T 2 := by rw [hP, hT]; exact sheet_ok kk s0 s1 half
  have hl := hm.plen
  obtain ⟨⟨u0, uv, v1⟩, hside⟩ := (sum_facts kk s0 s1 half P hP T hT).2.2.2.2 _ he
  dsimp only at u0 uv v1 hside
  by_cases h1 : 0 ≤ sideI T u v
  · by_cases h2 : 0 ≤ sideI T v u
    · obtain ⟨i, k, s, t, p, q, a1, a2, a3, a4, a5, a6, a7, a8, a9, a10⟩ := cnt_facts kk s0 s1 half P hP T hT u v uv h1 h2
      refine (mturn_both w vp vt P T 2 hp ht hm (meshI hm) u v (by omega) (by omega) uv i k s t p q a1 a2 a3 a4 a5 a6 a7 a8 a9 hg).mono ?_
      rintro e w' ⟨r, rfl, hr, hb⟩
      refine ⟨r, rfl, ?_, hb⟩
      rcases hr with ⟨z1, z2, vp', vt', rfl, hp', ht'⟩ | ⟨_, rfl⟩
      · obtain ⟨p1, c1, rfl, -, -, -⟩ := hp'.open
        obtain ⟨p2, c2, rfl, -, -, -⟩ := ht'.open
        exact ⟨_, _, _, _, _, _, 0, rfl, .inr ⟨rfl, i, k, p, q, a10 z1 z2, hp', ht'⟩⟩
      · exact ⟨_, _, _, _, _, _, 7, rfl, .inl (.inr rfl)⟩
    · refine (mturn_open w vp vt P T 2 hp ht hm (meshI hm) u v (by omega) (by omega) uv (by omega) hg).mono ?_
      rintro e w' ⟨r, rfl, rfl, hb⟩
      exact ⟨_, rfl, ⟨_, _, _, _, _, _, 25, rfl, .inl (.inl rfl)⟩, hb⟩
  · refine (mturn_open w vp vt P T 2 hp ht hm (meshI hm) u v (by omega) (by omega) uv (by omega) hg).mono ?_
    rintro e w' ⟨r, rfl, rfl, hb⟩
    exact ⟨_, rfl, ⟨_, _, _, _, _, _, 25, rfl, .inl (.inl rfl)⟩, hb⟩

end Go.Proofs.YtccngnjkehibiaaGreatDoor

namespace Go.Proofs.YtccngnjkehibiaaGreatDoor
open Go.RowKit Go.Lib

theorem RdE.cells {w : World} {v : Value} {l : List Edge} (h : RdE w v l) : ∃ p c, v = .slice p l.length c ∧ ∀ i s, l[i]? = some s → ∃ b off, p = some ⟨b, off, none⟩ ∧ b < w.heap.size ∧ w.cell? ⟨b, off + i * 2, none⟩ = some (.int .i64 s.1) ∧ w.cell? ⟨b, off + i * 2 + 1, none⟩ = some (.int .i64 s.2) := by
  obtain ⟨p, c, rfl, _, _, _, h4⟩ := h
  refine ⟨p, c, rfl, fun i s hs => ?_⟩
  obtain ⟨g1, g2⟩ := cellsE_get l i s hs
  obtain ⟨b, off, hp, hc⟩ := h4 (fun e => by rw [e] at g1; cases g1)
  have k1 := hc _ _ g1
  have k2 := hc _ _ g2
  rw [← Nat.add_assoc] at k2
  exact ⟨b, off, hp, World.block_lt_of_cell? w _ k1, k1, k2⟩
/-- A box of a mesh, fresh behind a call. -/
theorem zm1d {x z : World} (h : Below (x.alloc (.cells #[.slice none 0 0, .slice none 0 0] 34)).drew.heap.size (x.alloc (.cells #[.slice none 0 0, .slice none 0 0] 34)).drew z) : BoxN z x.heap.size 34 [.slice none 0 0, .slice none 0 0] := (BoxN.new x _ _ _ rfl).drew.below h (by simp)
structure MBoxF (z : World) (b : Nat) : Prop where
  c0 : z.cell? ⟨b, 0, none⟩ = some (.slice none 0 0)
  c1 : z.cell? ⟨b, 1, none⟩ = some (.slice none 0 0)
  f0 : z.frozen? ⟨b, 0, none⟩ = false
  f1 : z.frozen? ⟨b, 1, none⟩ = false
theorem MBoxF.of {z : World} {b : Nat} (h : BoxN z b 34 [.slice none 0 0, .slice none 0 0]) : MBoxF z b := ⟨h.cell 0 rfl, h.cell 1 rfl, h.frozen 0, h.frozen 1⟩
theorem mbox_set {w : World} {b t : Nat} {v0 v1 : Value} (h : BoxN w b t [.slice none 0 0, .slice none 0 0]) : BoxN ((w.setCell ⟨b, 0, none⟩ v0).setCell ⟨b, 1, none⟩ v1) b t [v0, v1] := (h.set 0 v0).set 1 v1
theorem newE_step {T : List Tri} {l : List Edge} {j : Nat} {e : Edge} (h : l[j]? = some e) : newE T (l.take (j + 1)) = if sideI T e.1 e.2 < 0 ∧ sideI T e.2 e.1 < 0 then e else newE T (l.take j) := by
  obtain ⟨hj, rfl⟩ := List.getElem?_eq_some_iff.1 h
  unfold newE
  rw [List.take_succ_eq_append_getElem hj, List.foldl_append]
  rfl
theorem CTurn.set {P : List PtQ} {T : List Tri} {u v : Int} {vp vt : Value} {g : Int} {z : World} (h : CTurn P T u v vp vt g z) {b : Nat} (hb : BoxN z b 34 [.slice none 0 0, .slice none 0 0]) (v0 v1 : Value) : CTurn P T u v vp vt g ((z.setCell ⟨b, 0, none⟩ v0).setCell ⟨b, 1, none⟩ v1) := by
  rcases h with h | ⟨h, i, k, p, q, hF, hp, ht⟩
  · exact .inl h
  · have h1 := (hb.set 0 v0).cell 1 rfl
    exact .inr ⟨h, i, k, p, q, hF, RdC.set_other (RdC.set_other hp (hb.cell 0 rfl) (noSlP _)) h1 (noSlP _), RdC.set_other (RdC.set_other ht (hb.cell 0 rfl) (noSlT _)) h1 (noSlT _)⟩
theorem CTurn.alloc {P : List PtQ} {T : List Tri} {u v : Int} {vp vt : Value} {g : Int} {z : World} (h : CTurn P T u v vp vt g z) (o : Obj) : CTurn P T u v vp vt g (z.alloc o) := by
  rcases h with h | ⟨h, i, k, p, q, hF, hp, ht⟩
  · exact .inl h
  · exact .inr ⟨h, i, k, p, q, hF, RdC.alloc hp _, RdC.alloc ht _⟩

set_option maxHeartbeats 8000000 in
set_option maxRecDepth 100000 in
theorem meshCounts_all (w : World) (kz s0 s1 : Int) (half : Bool) (nz : Int) (hk0 : 0 ≤ kz) (hk1 : kz ≤ 255) (hs0 : -128 ≤ s0 ∧ s0 ≤ 127) (hs1 : -128 ≤ s1 ∧ s1 ≤ 127) (hn : 0 ≤ nz ∧ nz ≤ 255) (hg : Good w) :
    Calls Tryz.prog 10 #[.agg #[.int .u8 kz, .int .i8 s0, .int .i8 s1, .bool half], .int .u8 nz] w (Ret (fun r _ => r = .bool true) w) := by
  obtain ⟨kk, hk⟩ : ∃ k : Nat, kz.tmod 8 = (k : Int) := ⟨(kz.tmod 8).toNat, by have := Int.tmod_nonneg 8 hk0; omega⟩
  have HMK := Lib.hid fun w hg => make12_any w kz s0 s1 half kk hk hk0 hk1 hs0 hs1 hg
  obtain ⟨P, hP⟩ : ∃ P, P = sheetP kk s0 s1 half := ⟨_, rfl⟩
  obtain ⟨T, hT⟩ : ∃ T, T = shapeT kk := ⟨_, rfl⟩
  have hM : MeshOK P T 2 := by rw [hP, hT]; exact sheet_ok kk s0 s1 half
  have hT4 : T.length ≤ 6 := by rw [hT]; unfold shapeT; split <;> decide
  obtain ⟨f1, f2, f3, f4, f5⟩ := sum_facts kk s0 s1 half P hP T hT
  have HTU := Lib.hid fun w vp vt hp ht u v he hg => cturn_any w vp vt kk s0 s1 half P hP T hT hp ht u v he hg
  rw [← hP, ← hT] at HMK
  have HM := Lib.hid hM
  have HED : Hid (∀ (w : World) (vp vt : Value), RdP w vp (strP P) → RdT w vt T → Good w → _) := fun w vp vt hp ht hg => edges_ok w vp vt P T 2 hp ht HM.out (meshI HM.out) (meshSm HM.out) f2 f3 hg
  have HAR : Hid (∀ (w : World) (vp vt : Value), RdP w vp (strP P) → RdT w vt T → Good w → _) := fun w vp vt hp ht hg => marea_ok w vp vt P T 2 hp ht HM.out (by omega) hg
  have hP400 := hM.plen
  obtain ⟨E, hE⟩ : ∃ E, E = edgesL (keysOf T) := ⟨_, rfl⟩
  obtain ⟨idx, hidx⟩ : ∃ i : Nat, i = nz.toNat % E.length := ⟨_, rfl⟩
  have hlt : idx < E.length := by rw [hidx]; exact Nat.mod_lt _ (by rw [hE]; exact f4)
  obtain ⟨⟨u, v⟩, huv⟩ : ∃ e, E[idx]? = some e := ⟨_, List.getElem?_eq_getElem hlt⟩
  have HUV : Hid ((u, v) ∈ edgesL (keysOf T)) := by rw [← hE]; exact List.mem_of_getElem? huv
  have HF3 : Hid (0 < (edgesU (keysOf T)).length ∧ (edgesU (keysOf T)).length ≤ 12) := ⟨f2, f3⟩
  have HEE := Lib.hid hE
  rw [← hE] at HED f1
  have hne : ¬ (E.length : Int) = 0 := by omega
  have hne2 : ((E.length : Int) == 0) = false := by simpa using hne
  have hne3 : ¬ E.length = 0 := by omega
  have hne4 : ¬ E = [] := fun e => hne3 (by rw [e]; rfl)
  have hrem : nz.tmod (E.length : Int) = (idx : Int) := by
    rw [Int.tmod_eq_emod_of_nonneg hn.1, hidx, Int.natCast_emod, Int.toNat_of_nonneg hn.1]
  have hwn : IntKind.i64.wrap nz = nz := IntWalk.i64_in _ (by omega)
  have hwi : IntKind.i64.wrap (idx : Int) = (idx : Int) := IntWalk.i64_in _ (by omega)
  have hsum : (P.length : Int) + (T.length : Int) = (E.length : Int) + 1 := by omega
  have hix : (idx : Int) < (E.length : Int) := by omega
  have HF1 := Lib.hid f1
  clear hk hk0 hk1 hs0 hs1 hP hT hM f1 f2 f3 f4 f5 hE hidx hn
  go_enter Tryz.func10, Tryz.ntmps10
  go_wp2_with fail
  obtain ⟨W, hW⟩ : ∃ W, W = w.alloc (.cells #[.int .u8 kz, .int .i8 s0, .int .i8 s1, .bool half] 49) := ⟨_, rfl⟩
  have hB : Below w.heap.size w W := by rw [hW]; exact (Below.refl _ _).alloc (Nat.le_refl _) _
  have b3 : BoxN W w.heap.size 49 [.int .u8 kz, .int .i8 s0, .int .i8 s1, .bool half] := by rw [hW]; exact BoxN.new _ _ _ _ rfl
  rw [← hW]
  clear hW
  refine (known12_any W (hg.below hB)).mono ?_
  rintro e o1 ⟨_, rfl, rfl, hb1⟩
  have hB1 := hB.trans (hb1.mono hB.size)
  have b31 := b3.below hb1 b3.lt
  clear hb1 hB b3
  have k0 := b31.cell 0 rfl
  have k1 := b31.cell 1 rfl
  have k2 := b31.cell 2 rfl
  have k3 := b31.cell 3 rfl
  go_wp2_with fail
  refine (HMK.out o1 (hg.below hB1)).mono ?_
  rintro e o2 ⟨_, rfl, ⟨vp, vt, rfl, hp, ht⟩, hb2⟩
  have hB2 := hB1.trans (hb2.mono hB1.size)
  obtain ⟨pp, cp, rfl, -, -, -⟩ := hp.open
  obtain ⟨pt, ct, rfl, -, -, -⟩ := ht.open
  rw [strP_length] at *
  have HPP := Lib.hid hp
  have HTT := Lib.hid ht
  clear hb2 hB1 b31 hp ht k0 k1 k2 k3 HMK
  obtain ⟨o3, ho3⟩ : ∃ W, W = o2.alloc (.cells #[.slice pp P.length cp, .slice pt T.length ct] 34) := ⟨_, rfl⟩
  have hb3 : Below o2.heap.size o2 o3 := by rw [ho3]; exact (Below.refl _ _).alloc (Nat.le_refl _) _
  have b5 : BoxN o3 o2.heap.size 34 [.slice pp P.length cp, .slice pt T.length ct] := by rw [ho3]; exact BoxN.new _ _ _ _ rfl
  have hB3 := hB2.trans (hb3.mono hB2.size)
  go_upto_region 4 with fail
  rw [← ho3]
  clear ho3
  have m0 := b5.cell 0 rfl
  have m1 := b5.cell 1 rfl
  go_wp2_with fail
  refine (HED.out o3 _ _ (RdC.below HPP.out hb3) (RdC.below HTT.out hb3) (hg.below hB3)).mono ?_
  rintro e o4 ⟨_, rfl, ⟨ve, rfl, hve, -⟩, hb4⟩
  have hB4 := hB3.trans (hb4.mono hB3.size)
  have h24 := hb3.trans (hb4.mono hb3.size)
  have b54 := b5.below hb4 b5.lt
  clear m0 m1 b5 hB3 hb4 hb3
  have m0 := b54.cell 0 rfl
  have m1 := b54.cell 1 rfl
  go_wp2_with fail
  refine (HAR.out o4 _ _ (RdC.below HPP.out h24) (RdC.below HTT.out h24) (hg.below hB4)).mono ?_
  rintro e o5 ⟨_, rfl, rfl, hb5⟩
  have hB5 := hB4.trans (hb5.mono hB4.size)
  have h25 := h24.trans (hb5.mono h24.size)
  have b55 := b54.below hb5 b54.lt
  have hve5 : RdE o5 ve E := RdC.below hve hb5
  obtain ⟨pe, ce, rfl, hce⟩ := hve5.cells
  obtain ⟨be, oe, rfl, hbe, e0, e1⟩ := hce idx (u, v) huv
  have HCE := Lib.hid hce
  clear m0 m1 b54 hB4 hb5 h24 hve hve5 hce HED HAR huv
  dsimp only at e0 e1
  have m0 := b55.cell 0 rfl
  have m1 := b55.cell 1 rfl
  go_upto_region 8 with fail
  have hl5 := b55.lt
  go_cut [10, 11] (fun s10 s11 wx => ∃ (b10 : Nat) (p1 : Option Addr) (n1 c1 : Nat) (p2 : Option Addr) (n2 c2 : Nat) (g : Int), s10 = .pointer (some ⟨b10, 0, none⟩) ∧ s11 = .int .i64 g ∧ BoxN wx b10 34 [.slice p1 n1 c1, .slice p2 n2 c2] ∧ CTurn P T u v (.slice p1 n1 c1) (.slice p2 n2 c2) g wx ∧ Below o5.heap.size o5 wx)
  case first =>
    have q0 : Below o5.heap.size o5 o5.drew := below_drewN o5 1
    have HS : Hid (∀ w' : World, Below o5.heap.size o5 w' → (w'.cell? ⟨o2.heap.size, 0, none⟩ = some (.slice pp P.length cp) ∧ w'.cell? ⟨o2.heap.size, 1, none⟩ = some (.slice pt T.length ct)) ∧ w'.cell? ⟨be, oe + idx * 2, none⟩ = some (.int .i64 u) ∧ w'.cell? ⟨be, oe + idx * 2 + 1, none⟩ = some (.int .i64 v)) := fun w' hb =>
      ⟨⟨(hb.cell (p := ⟨o2.heap.size, 0, none⟩) hl5).trans m0, (hb.cell (p := ⟨o2.heap.size, 1, none⟩) hl5).trans m1⟩, (hb.cell (p := ⟨be, oe + idx * 2, none⟩) hbe).trans e0, (hb.cell (p := ⟨be, oe + idx * 2 + 1, none⟩) hbe).trans e1⟩
    go_region_held3 (fun w' => (w'.cell? ⟨o2.heap.size, 0, none⟩ = some (.slice pp P.length cp) ∧ w'.cell? ⟨o2.heap.size, 1, none⟩ = some (.slice pt T.length ct)) ∧ w'.cell? ⟨be, oe + idx * 2, none⟩ = some (.int .i64 u) ∧ w'.cell? ⟨be, oe + idx * 2 + 1, none⟩ = some (.int .i64 v))
      ((refine HS.out _ ?_; repeat (first | with_reducible exact q1 | with_reducible exact q0 | with_reducible exact Below.refl _ _ | with_reducible refine Below.drew ?_ | ((with_reducible refine Below.setCell ?_ ?_ _); rotate_left; (first | omega | (simp <;> omega))) | ((with_reducible refine Below.alloc ?_ ?_ _); rotate_left; (first | exact Nat.le_refl _ | omega | (simp <;> omega))))))
      (first
        | ((with_reducible refine Calls.mono (HTU.out _ _ _ ?_ ?_ u v HUV.out ?_) ?_)
           (focus refine RdC.below HPP.out (h25.trans (Below.mono (B := o5.heap.size) ?_ h25.size)); repeat (first | with_reducible exact q1 | with_reducible exact q0 | with_reducible exact Below.refl _ _ | with_reducible refine Below.drew ?_ | ((with_reducible refine Below.setCell ?_ ?_ _); rotate_left; (first | omega | (simp <;> omega))) | ((with_reducible refine Below.alloc ?_ ?_ _); rotate_left; (first | exact Nat.le_refl _ | omega | (simp <;> omega)))))
           (focus refine RdC.below HTT.out (h25.trans (Below.mono (B := o5.heap.size) ?_ h25.size)); repeat (first | with_reducible exact q1 | with_reducible exact q0 | with_reducible exact Below.refl _ _ | with_reducible refine Below.drew ?_ | ((with_reducible refine Below.setCell ?_ ?_ _); rotate_left; (first | omega | (simp <;> omega))) | ((with_reducible refine Below.alloc ?_ ?_ _); rotate_left; (first | exact Nat.le_refl _ | omega | (simp <;> omega)))))
           (focus refine hg.below (hB5.trans (Below.mono (B := o5.heap.size) ?_ hB5.size)); repeat (first | with_reducible exact q1 | with_reducible exact q0 | with_reducible exact Below.refl _ _ | with_reducible refine Below.drew ?_ | ((with_reducible refine Below.setCell ?_ ?_ _); rotate_left; (first | omega | (simp <;> omega))) | ((with_reducible refine Below.alloc ?_ ?_ _); rotate_left; (first | exact Nat.le_refl _ | omega | (simp <;> omega)))))
           rintro e z1 ⟨_, rfl, ⟨p1, n1, c1, p2, n2, c2, g, rfl, hct⟩, hy1⟩
           have q1 : Below o5.heap.size o5 z1 := (by refine Below.trans ?_ (hy1.mono ?_); rotate_left; (first | exact Nat.le_refl _ | omega | (simp <;> omega)); repeat (first | with_reducible exact q1 | with_reducible exact q0 | with_reducible exact Below.refl _ _ | with_reducible refine Below.drew ?_ | ((with_reducible refine Below.setCell ?_ ?_ _); rotate_left; (first | omega | (simp <;> omega))) | ((with_reducible refine Below.alloc ?_ ?_ _); rotate_left; (first | exact Nat.le_refl _ | omega | (simp <;> omega)))))
           have szq := q1.size
           (first | (have D8 := Lib.hid (zm1d hy1); have D8f := MBoxF.of D8.out; obtain ⟨u1, u2, u3, u4⟩ := D8f) | skip)))
    all_goals
      go_wp2_with fail
      go_meet
      refine ⟨_, p1, n1, c1, p2, n2, c2, g, rfl, rfl, ?_, ?_, ?_⟩
      · first | exact mbox_set D8.out | exact BoxN.new _ _ _ _ rfl
      · first | exact hct.set D8.out _ _ | exact hct.alloc _
      · repeat (first | with_reducible exact q1 | with_reducible exact q0 | with_reducible exact Below.refl _ _ | with_reducible refine Below.drew ?_ | ((with_reducible refine Below.setCell ?_ ?_ _); rotate_left; (first | omega | (simp <;> omega))) | ((with_reducible refine Below.alloc ?_ ?_ _); rotate_left; (first | exact Nat.le_refl _ | omega | (simp <;> omega))))
  case rest =>
    obtain ⟨b10, p1, n1, c1, p2, n2, c2, g, rfl, rfl, hb10, hct, hb6⟩ := hcut
    have hB6 := hB5.trans (hb6.mono hB5.size)
    have h26 := h25.trans (hb6.mono h25.size)
    have b56 := b55.below hb6 b55.lt
    clear m0 m1 e0 e1 HTU hB5 h25 b55 hbe hl5 hwn hwi hrem hix hne hne2 hne3 hne4 hsum
    rcases hct with hct | ⟨rfl, i, k, p, q, hF, hp2, ht2⟩
    · rcases hct with rfl | rfl
      all_goals
        go_wp2_with fail
        go_ret
        exact ⟨_, rfl, rfl, hB6⟩
    · obtain ⟨T2, hT2⟩ : ∃ T2, T2 = turnT T i k u v p q := ⟨_, rfl⟩
      have hl2 : T2.length = T.length := by rw [hT2]; exact turnT_length _ _ _ _ _ _ _
      obtain ⟨hok, har, hle, hleU, u2, v2, i2, k2, s2, t2, p3, q3, hnew, ⟨hu0, huv, hv1⟩, x1, x2, x3, x4, x5, x6, x7, x8, x9, x10, x11, hbk⟩ := hF
      rw [← hT2] at hok har hle hleU hnew x1 x2 x4 x5 hbk ht2
      clear hT2
      obtain ⟨T3, hT3⟩ : ∃ T3, T3 = turnT T2 i2 k2 u2 v2 p3 q3 := ⟨_, rfl⟩
      have hl3 : T3.length = T.length := by rw [hT3, turnT_length, hl2]
      rw [← hT3] at hbk
      obtain ⟨E2, hE2⟩ : ∃ E2, E2 = edgesL (keysOf T2) := ⟨_, rfl⟩
      rw [← hE2, ← HEE.out] at hle
      rw [← hE2] at hnew
      have HOK := Lib.hid hok
      have HAR2 : Hid (∀ (w : World) (vp vt : Value), RdP w vp (strP P) → RdT w vt T2 → Good w → Calls Tryz.prog 39 #[.agg #[vp, vt]] w (Ret (fun r _ => r = .tuple #[.string (RS (sumA P T T.length)), .int .i64 0]) w)) := fun w vp vt hp ht hg => by
        have h := marea_ok w vp vt P T2 2 hp ht HOK.out (by omega) hg
        rw [hl2, har] at h
        exact h
      have HED2 : Hid (∀ (w : World) (vp vt : Value), RdP w vp (strP P) → RdT w vt T2 → Good w → Calls Tryz.prog 40 #[.agg #[vp, vt]] w (Ret (fun r w' => ∃ v, r = .tuple #[v, .int .i64 0] ∧ RdE w' v E2 ∧ FreshV w.heap.size v) w)) := fun w vp vt hp ht hg => by
        rw [hE2]
        exact edges_ok w vp vt P T2 2 hp ht HOK.out (meshI HOK.out) (meshSm HOK.out) (by rw [hleU]; exact HF3.out.1) (by rw [hleU]; exact HF3.out.2) hg
      have HTU2 : Hid (∀ (w : World) (vp vt : Value), RdP w vp (strP P) → RdT w vt T2 → Good w → Calls Tryz.prog 35 #[.agg #[vp, vt], .agg #[.int .i64 u2, .int .i64 v2]] w (Ret (fun r w' => ∃ p4 n4 c4 p5 c5, r = .tuple #[.agg #[.slice p4 n4 c4, .slice p5 T.length c5], .int .i64 0] ∧ RdP w' (.slice p4 n4 c4) (strP P) ∧ RdT w' (.slice p5 T.length c5) T3) w)) := fun w vp vt hp ht hg => by
        refine (mturn_both w vp vt P T2 2 hp ht HOK.out (meshI HOK.out) u2 v2 (by omega) (by omega) huv i2 k2 s2 t2 p3 q3 x1 x2 x3 x4 x5 x6 x7 x8 x9 hg).mono ?_
        rintro e w' ⟨r, rfl, hr, hb⟩
        refine ⟨r, rfl, ?_, hb⟩
        rcases hr with ⟨_, _, vp', vt', rfl, hp', ht'⟩ | ⟨h | h, _⟩
        · rw [← hT3] at ht'
          obtain ⟨p4, c4, rfl, -, -, -⟩ := hp'.open
          obtain ⟨p5, c5, rfl, -, -, -⟩ := ht'.open
          rw [hl3] at ht' ⊢
          exact ⟨_, _, _, _, _, rfl, hp', ht'⟩
        · omega
        · omega
      have HSD : Hid (∀ (a b : Int) (w : World) (vp vt : Value), RdP w vp (strP P) → RdT w vt T → Calls Tryz.prog 36 #[.agg #[vp, vt], .int .i64 a, .int .i64 b] w (Ret (fun r _ => r = .int .i64 (sideI T a b)) w)) := fun a b w vp vt hp ht => lsides_any w vp vt (strP P) T hp ht (by omega) a b
      have HSB : Hid (∀ (a b : Int) (w : World) (vp vt : Value), RdP w vp (strP P) → RdT w vt T3 → Calls Tryz.prog 36 #[.agg #[vp, vt], .int .i64 a, .int .i64 b] w (Ret (fun r _ => r = .int .i64 (sideI T3 a b)) w)) := fun a b w vp vt hp ht => lsides_any w vp vt (strP P) T3 hp ht (by omega) a b
      have HBK : Hid (∀ (i : Nat) (t : Tri), T[i]? = some t → 0 ≤ sideI T3 t.1 t.2.1 ∧ sideI T3 t.1 t.2.1 = sideI T3 t.2.1 t.2.2) := fun i t hi => by
        unfold backB at hbk
        rw [List.all_eq_true] at hbk
        have h := hbk t (List.mem_of_getElem? hi)
        simpa using h
      have HNW : Hid (newE T E2 = (u2, v2)) := hnew
      have HLE := Lib.hid hle
      have hEE : (E2.length : Int) = (E.length : Int) := by omega
      have hEn : ((E2.length : Int) != (E.length : Int)) = false := by rw [hEE]; exact bne_self_eq_false _
      have hE36 : E2.length ≤ 1000 := by have := HF1.out; omega
      have hl1 : n1 = P.length := by obtain ⟨_, _, e, _⟩ := hp2; injection e with _ e _; rw [e, strP_length]
      have hln : n2 = T.length := by obtain ⟨_, _, e, _⟩ := ht2; injection e with _ e _; rw [e, hl2]
      subst hl1 hln
      have HP2 := Lib.hid hp2
      have HT2 := Lib.hid ht2
      clear hok har hle hleU hnew hu0 huv hv1 x1 x2 x3 x4 x5 x6 x7 x8 x9 x10 x11 hbk hT3 hl3 hE2 hl2 hp2 ht2 HUV HF3 HEE HCE hlt hEE
      have m0 := hb10.cell 0 rfl
      have m1 := hb10.cell 1 rfl
      go_wp2_with fail
      refine (HAR2.out wc _ _ HP2.out HT2.out (hg.below hB6)).mono ?_
      rintro e o7 ⟨_, rfl, rfl, hb7⟩
      have hB7 := hB6.trans (hb7.mono hB6.size)
      have h27 := h26.trans (hb7.mono h26.size)
      have b57 := b56.below hb7 b56.lt
      have b107 := hb10.below hb7 hb10.lt
      have HP7 := Lib.hid (RdC.below HP2.out hb7)
      have HT7 := Lib.hid (RdC.below HT2.out hb7)
      clear m0 m1 hb7 hB6 h26 b56 hb10 HP2 HT2 HAR2
      obtain ⟨o8, ho8⟩ : ∃ W, W = o7.alloc (.cells #[.int .i64 (-1), .int .i64 (-1)] 25) := ⟨_, rfl⟩
      have hb8 : Below o7.heap.size o7 o8 := by rw [ho8]; exact (Below.refl _ _).alloc (Nat.le_refl _) _
      have b13 : BoxN o8 o7.heap.size 25 [.int .i64 (-1), .int .i64 (-1)] := by rw [ho8]; exact BoxN.new _ _ _ _ rfl
      go_upto_region 13 with fail
      rw [← ho8]
      clear ho8
      have hB8 := hB7.trans (hb8.mono hB7.size)
      have h28 := h27.trans (hb8.mono h27.size)
      have b58 := b57.below hb8 b57.lt
      have b108 := b107.below hb8 b107.lt
      have HP8 := Lib.hid (RdC.below HP7.out hb8)
      have HT8 := Lib.hid (RdC.below HT7.out hb8)
      have m0 := b108.cell 0 rfl
      have m1 := b108.cell 1 rfl
      go_wp2_with fail
      refine (HED2.out o8 _ _ HP8.out HT8.out (hg.below hB8)).mono ?_
      rintro e o9 ⟨_, rfl, ⟨vf, rfl, hvf, hfr⟩, hb9⟩
      have hB9 := hB8.trans (hb9.mono hB8.size)
      have hb79 : Below o7.heap.size o7 o9 := hb8.trans (hb9.mono hb8.size)
      have b139 := b13.below hb9 b13.lt
      have hz13 : o7.heap.size < o8.heap.size := b13.lt
      obtain ⟨pf, cf, rfl, hcf⟩ := hvf.cells
      have HCF := Lib.hid hcf
      have HFR := Lib.hid hfr
      clear m0 m1 hb8 hB8 h28 b58 b108 HP8 HT8 HED2 b13 hvf hfr hcf hb9
      go_wp2_with fail
      go_loopw [15] (fun t15 wr => ∃ j : Nat, t15 = .int .i64 j ∧ j ≤ E2.length ∧ BoxN wr o7.heap.size 25 [.int .i64 (newE T (E2.take j)).1, .int .i64 (newE T (E2.take j)).2] ∧ o9.grownBy wr (some o7.heap.size)) (fun t15 _ => E2.length - (RowKit.intOf t15).toNat)
      case atStart => exact ⟨0, rfl, Nat.zero_le _, b139, gb_refl _ _⟩
      case round =>
        obtain ⟨j, rfl, hj, b13r, hgb⟩ := hrel
        have hb7r : Below o7.heap.size o7 wr := below_gb hb79 hgb (Nat.le_refl _)
        have hBr := hB7.trans (hb7r.mono hB7.size)
        have h2r := h27.trans (hb7r.mono h27.size)
        have b5r := b57.below hb7r b57.lt
        have b10r := b107.below hb7r b107.lt
        rcases Nat.lt_or_ge j E2.length with h | h
        · obtain ⟨⟨x, y⟩, hxy⟩ : ∃ e, E2[j]? = some e := ⟨_, List.getElem?_eq_getElem h⟩
          obtain ⟨bf, of', rfl, hbf, e0', e1'⟩ := HCF.out j (x, y) hxy
          have hbf13 : o8.heap.size ≤ bf := HFR.out _ _ _ rfl
          have hfar : some bf ≠ some o7.heap.size := fun e => by injection e with e; omega
          have e0 := (World.grownBy.cell_far hgb ⟨bf, of' + j * 2, none⟩ hbf hfar).trans e0'
          have e1 := (World.grownBy.cell_far hgb ⟨bf, of' + j * 2 + 1, none⟩ hbf hfar).trans e1'
          have hbfr : bf < wr.heap.size := Nat.lt_of_lt_of_le hbf hgb.size
          have HN := Lib.hid (newE_step (T := T) hxy)
          dsimp only at e0 e1 HN
          have m0 := b5r.cell 0 rfl
          have m1 := b5r.cell 1 rfl
          have hl5 := b5r.lt
          have hl13 := b13r.lt
          have hjz : (j : Int) < (E2.length : Int) := by omega
          have hw1 : IntKind.i64.wrap ((j : Int) + 1) = (j : Int) + 1 := IntWalk.i64_in _ (by omega)
          have HK : Hid (∀ w' : World, Below wr.heap.size wr w' → (w'.cell? ⟨o2.heap.size, 0, none⟩ = some (.slice pp P.length cp) ∧ w'.cell? ⟨o2.heap.size, 1, none⟩ = some (.slice pt T.length ct)) ∧ w'.cell? ⟨bf, of' + j * 2, none⟩ = some (.int .i64 x) ∧ w'.cell? ⟨bf, of' + j * 2 + 1, none⟩ = some (.int .i64 y)) := fun w' hb =>
            ⟨⟨(hb.cell (p := ⟨o2.heap.size, 0, none⟩) hl5).trans m0, (hb.cell (p := ⟨o2.heap.size, 1, none⟩) hl5).trans m1⟩, (hb.cell (p := ⟨bf, of' + j * 2, none⟩) hbfr).trans e0, (hb.cell (p := ⟨bf, of' + j * 2 + 1, none⟩) hbfr).trans e1⟩
          have HSS : Hid (∀ (a b : Int) (w' : World), Below wr.heap.size wr w' → Calls Tryz.prog 36 #[.agg #[.slice pp P.length cp, .slice pt T.length ct], .int .i64 a, .int .i64 b] w' (Ret (fun r _ => r = .int .i64 (sideI T a b)) w')) := fun a b w' hb =>
            HSD.out a b w' _ _ (RdC.below HPP.out (h2r.trans (hb.mono h2r.size))) (RdC.below HTT.out (h2r.trans (hb.mono h2r.size)))
          have q0 : Below wr.heap.size wr wr.drew := below_drewN wr 1
          clear e0' e1' hxy hfar
          by_cases hs1 : sideI T x y < 0
          · have hd1 : decide (sideI T x y < 0) = true := decide_eq_true hs1
            go_upto_region 19 with fail
            refine wp_region_held_drew (S := (fun w' => (w'.cell? ⟨o2.heap.size, 0, none⟩ = some (.slice pp P.length cp) ∧ w'.cell? ⟨o2.heap.size, 1, none⟩ = some (.slice pt T.length ct)) ∧ w'.cell? ⟨bf, of' + j * 2, none⟩ = some (.int .i64 x) ∧ w'.cell? ⟨bf, of' + j * 2 + 1, none⟩ = some (.int .i64 y))) (by kernel_rfl) ?_ (fun hHeld => ?_)
            · first | exact HK.out _ q2 | exact HK.out _ q1 | exact HK.out _ q0
            refine wpAnyH_take (i := 0) (oi := _) (v := ?_) rfl (by kernel_rfl) (by kernel_rfl) (by kernel_rfl) (fun _ _ _ h => h) (Or.inl ⟨by rfl, ?_⟩) (by assumption) ?_
            rotate_left
            · intro w hSw; (try dsimp only at hSw); first | (go_simp; done) | (go_simp; with_reducible rfl)
            try simp only [Act.put, List.getElem_toArray, List.getElem_cons_zero, List.setIfInBounds_toArray, List.set_cons_zero, List.set_cons_succ]
            refine wpAnyH_take (i := 1) (oi := _) (v := ?_) rfl (by kernel_rfl) (by kernel_rfl) (by kernel_rfl) (fun _ _ _ h => h) (Or.inl ⟨by rfl, ?_⟩) (by assumption) ?_
            rotate_left
            · intro w hSw; (try dsimp only at hSw); first | (go_simp; done) | (go_simp; with_reducible rfl)
            try simp only [Act.put, List.getElem_toArray, List.getElem_cons_zero, List.getElem_cons_succ, List.setIfInBounds_toArray, List.set_cons_zero, List.set_cons_succ]
            refine wpAnyH_take (i := 2) (oi := _) (v := ?_) rfl (by kernel_rfl) (by kernel_rfl) (by kernel_rfl) (fun _ _ _ h => h) (Or.inl ⟨by rfl, ?_⟩) (by assumption) ?_
            rotate_left
            · intro w hSw; (try dsimp only at hSw); first | (go_simp; done) | (go_simp; with_reducible rfl)
            try simp only [Act.put, List.getElem_toArray, List.getElem_cons_zero, List.getElem_cons_succ, List.setIfInBounds_toArray, List.set_cons_zero, List.set_cons_succ]
            refine wpAnyH_take (i := 3) (oi := _) (v := ?_) rfl (by kernel_rfl) (by kernel_rfl) (by kernel_rfl) (fun _ _ _ h => h) (Or.inl ⟨by rfl, ?_⟩) (by assumption) ?_
            rotate_left
            · intro w hSw; (try dsimp only at hSw); first | (go_simp; done) | (go_simp; with_reducible rfl)
            try simp only [Act.put, List.getElem_toArray, List.getElem_cons_zero, List.getElem_cons_succ, List.setIfInBounds_toArray, List.set_cons_zero, List.set_cons_succ]
            refine wpAnyH_take (i := 4) (oi := _) (v := ?_) rfl (by kernel_rfl) (by kernel_rfl) (by kernel_rfl) (fun _ _ _ h => h) (Or.inl ⟨by rfl, ?_⟩) (by assumption) ?_
            rotate_left
            · intro w hSw; (try dsimp only at hSw); first | (go_simp; done) | (go_simp; with_reducible rfl)
            try simp only [Act.put, List.getElem_toArray, List.getElem_cons_zero, List.getElem_cons_succ, List.setIfInBounds_toArray, List.set_cons_zero, List.set_cons_succ]
            refine wpAnyH_take (i := 5) (oi := _) (v := ?_) rfl (by kernel_rfl) (by kernel_rfl) (by kernel_rfl) (fun _ _ _ h => h) (Or.inl ⟨by rfl, ?_⟩) (by assumption) ?_
            rotate_left
            · intro w hSw; (try dsimp only at hSw); first | (go_simp; done) | (go_simp; with_reducible rfl)
            try simp only [Act.put, List.getElem_toArray, List.getElem_cons_zero, List.getElem_cons_succ, List.setIfInBounds_toArray, List.set_cons_zero, List.set_cons_succ]
            refine wpAnyH_take (i := 6) (oi := _) (v := ?_) rfl (by kernel_rfl) (by kernel_rfl) (by kernel_rfl) (fun _ _ _ h => h) (Or.inl ⟨by rfl, ?_⟩) (by assumption) ?_
            rotate_left
            · intro w hSw; (try dsimp only at hSw); first | (go_simp; done) | (go_simp; with_reducible rfl)
            try simp only [Act.put, List.getElem_toArray, List.getElem_cons_zero, List.getElem_cons_succ, List.setIfInBounds_toArray, List.set_cons_zero, List.set_cons_succ]
            refine wpAnyH_take (i := 7) (oi := _) (v := ?_) rfl (by kernel_rfl) (by kernel_rfl) (by kernel_rfl) (fun _ _ _ h => h) (Or.inl ⟨by rfl, ?_⟩) (by assumption) ?_
            rotate_left
            · intro w hSw; (try dsimp only at hSw); first | (go_simp; done) | (go_simp; with_reducible rfl)
            try simp only [Act.put, List.getElem_toArray, List.getElem_cons_zero, List.getElem_cons_succ, List.setIfInBounds_toArray, List.set_cons_zero, List.set_cons_succ]
            refine wpAnyH_take (i := 8) (oi := _) (v := ?_) rfl (by kernel_rfl) (by kernel_rfl) (by kernel_rfl) (fun _ _ _ h => h) (Or.inl ⟨by rfl, ?_⟩) (by assumption) ?_
            rotate_left
            · intro w hSw; (try dsimp only at hSw); first | (go_simp; done) | (go_simp; with_reducible rfl)
            try simp only [Act.put, List.getElem_toArray, List.getElem_cons_zero, List.getElem_cons_succ, List.setIfInBounds_toArray, List.set_cons_zero, List.set_cons_succ]
            refine wpAnyH_take (i := 9) (oi := _) (v := ?_) rfl (by kernel_rfl) (by kernel_rfl) (by kernel_rfl) (fun _ _ _ h => h) (Or.inl ⟨by rfl, ?_⟩) (by assumption) ?_
            rotate_left
            · intro w hSw; (try dsimp only at hSw); first | (go_simp; done) | (go_simp; with_reducible rfl)
            try simp only [Act.put, List.getElem_toArray, List.getElem_cons_zero, List.getElem_cons_succ, List.setIfInBounds_toArray, List.set_cons_zero, List.set_cons_succ]
            refine wpAnyH_take (i := 10) (oi := _) (v := ?_) rfl (by kernel_rfl) (by kernel_rfl) (by kernel_rfl) (fun _ _ _ h => h) (Or.inl ⟨by rfl, ?_⟩) (by assumption) ?_
            rotate_left
            · intro w hSw; (try dsimp only at hSw); first | (go_simp; done) | (go_simp; with_reducible rfl)
            try simp only [Act.put, List.getElem_toArray, List.getElem_cons_zero, List.getElem_cons_succ, List.setIfInBounds_toArray, List.set_cons_zero, List.set_cons_succ]
            refine wpAnyH_ready (rs := [11]) (by kernel_rfl) (by simp) ?_
            refine AllReadyH.cons (o := _) rfl (fun K hK => ?_) AllReadyH.nil
            go_simp
            (refine (HSS.out x y _ q0).mono ?_; rintro e y1 ⟨_, rfl, rfl, hy1⟩; have q1 := q0.trans (hy1.mono q0.size))
            refine hK.out _ _ ?_ (fun hHeld => ?_)
            · first | exact HK.out _ q2 | exact HK.out _ q1 | exact HK.out _ q0
            clear hK K
            try simp only [Act.put, List.getElem_toArray, List.getElem_cons_zero, List.getElem_cons_succ, List.setIfInBounds_toArray, List.set_cons_zero, List.set_cons_succ]
            refine wpAnyH_take (i := 12) (oi := _) (v := ?_) rfl (by kernel_rfl) (by kernel_rfl) (by kernel_rfl) (fun _ _ _ h => h) (Or.inl ⟨by rfl, ?_⟩) (by assumption) ?_
            rotate_left
            · intro w hSw; (try dsimp only at hSw); first | (go_simp; done) | (go_simp; with_reducible rfl)
            try simp only [Act.put, List.getElem_toArray, List.getElem_cons_zero, List.getElem_cons_succ, List.setIfInBounds_toArray, List.set_cons_zero, List.set_cons_succ]
            refine wpAnyH_take (i := 13) (oi := _) (v := ?_) rfl (by kernel_rfl) (by kernel_rfl) (by kernel_rfl) (fun _ _ _ h => h) (Or.inl ⟨by rfl, ?_⟩) (by assumption) ?_
            rotate_left
            · intro w hSw; (try dsimp only at hSw); first | (go_simp; done) | (go_simp; with_reducible rfl)
            try simp only [Act.put, List.getElem_toArray, List.getElem_cons_zero, List.getElem_cons_succ, List.setIfInBounds_toArray, List.set_cons_zero, List.set_cons_succ]
            refine wpAnyH_take (i := 14) (oi := _) (v := ?_) rfl (by kernel_rfl) (by kernel_rfl) (by kernel_rfl) (fun _ _ _ h => h) (Or.inl ⟨by rfl, ?_⟩) (by assumption) ?_
            rotate_left
            · intro w hSw; (try dsimp only at hSw); first | (go_simp; done) | (go_simp; with_reducible rfl)
            try simp only [Act.put, List.getElem_toArray, List.getElem_cons_zero, List.getElem_cons_succ, List.setIfInBounds_toArray, List.set_cons_zero, List.set_cons_succ]
            refine wpAnyH_take (i := 15) (oi := _) (v := ?_) rfl (by kernel_rfl) (by kernel_rfl) (by kernel_rfl) (fun _ _ _ h => h) (Or.inl ⟨by rfl, ?_⟩) (by assumption) ?_
            rotate_left
            · intro w hSw; (try dsimp only at hSw); first | (go_simp; done) | (go_simp; with_reducible rfl)
            try simp only [Act.put, List.getElem_toArray, List.getElem_cons_zero, List.getElem_cons_succ, List.setIfInBounds_toArray, List.set_cons_zero, List.set_cons_succ]
            refine wpAnyH_take (i := 16) (oi := _) (v := ?_) rfl (by kernel_rfl) (by kernel_rfl) (by kernel_rfl) (fun _ _ _ h => h) (Or.inl ⟨by rfl, ?_⟩) (by assumption) ?_
            rotate_left
            · intro w hSw; (try dsimp only at hSw); first | (go_simp; done) | (go_simp; with_reducible rfl)
            try simp only [Act.put, List.getElem_toArray, List.getElem_cons_zero, List.getElem_cons_succ, List.setIfInBounds_toArray, List.set_cons_zero, List.set_cons_succ]
            refine wpAnyH_take (i := 17) (oi := _) (v := ?_) rfl (by kernel_rfl) (by kernel_rfl) (by kernel_rfl) (fun _ _ _ h => h) (Or.inl ⟨by rfl, ?_⟩) (by assumption) ?_
            rotate_left
            · intro w hSw; (try dsimp only at hSw); first | (go_simp; done) | (go_simp; with_reducible rfl)
            try simp only [Act.put, List.getElem_toArray, List.getElem_cons_zero, List.getElem_cons_succ, List.setIfInBounds_toArray, List.set_cons_zero, List.set_cons_succ]
            refine wpAnyH_take (i := 18) (oi := _) (v := ?_) rfl (by kernel_rfl) (by kernel_rfl) (by kernel_rfl) (fun _ _ _ h => h) (Or.inl ⟨by rfl, ?_⟩) (by assumption) ?_
            rotate_left
            · intro w hSw; (try dsimp only at hSw); first | (go_simp; done) | (go_simp; with_reducible rfl)
            try simp only [Act.put, List.getElem_toArray, List.getElem_cons_zero, List.getElem_cons_succ, List.setIfInBounds_toArray, List.set_cons_zero, List.set_cons_succ]
            refine wpAnyH_take (i := 19) (oi := _) (v := ?_) rfl (by kernel_rfl) (by kernel_rfl) (by kernel_rfl) (fun _ _ _ h => h) (Or.inl ⟨by rfl, ?_⟩) (by assumption) ?_
            rotate_left
            · intro w hSw; (try dsimp only at hSw); first | (go_simp; done) | (go_simp; with_reducible rfl)
            try simp only [Act.put, List.getElem_toArray, List.getElem_cons_zero, List.getElem_cons_succ, List.setIfInBounds_toArray, List.set_cons_zero, List.set_cons_succ]
            refine wpAnyH_take (i := 20) (oi := _) (v := ?_) rfl (by kernel_rfl) (by kernel_rfl) (by kernel_rfl) (fun _ _ _ h => h) (Or.inl ⟨by rfl, ?_⟩) (by assumption) ?_
            rotate_left
            · intro w hSw; (try dsimp only at hSw); first | (go_simp; done) | (go_simp; with_reducible rfl)
            try simp only [Act.put, List.getElem_toArray, List.getElem_cons_zero, List.getElem_cons_succ, List.setIfInBounds_toArray, List.set_cons_zero, List.set_cons_succ]
            refine wpAnyH_take (i := 21) (oi := _) (v := ?_) rfl (by kernel_rfl) (by kernel_rfl) (by kernel_rfl) (fun _ _ _ h => h) (Or.inl ⟨by rfl, ?_⟩) (by assumption) ?_
            rotate_left
            · intro w hSw; (try dsimp only at hSw); first | (go_simp; done) | (go_simp; with_reducible rfl)
            try simp only [Act.put, List.getElem_toArray, List.getElem_cons_zero, List.getElem_cons_succ, List.setIfInBounds_toArray, List.set_cons_zero, List.set_cons_succ]
            refine wpAnyH_take (i := 22) (oi := _) (v := ?_) rfl (by kernel_rfl) (by kernel_rfl) (by kernel_rfl) (fun _ _ _ h => h) (Or.inl ⟨by rfl, ?_⟩) (by assumption) ?_
            rotate_left
            · intro w hSw; (try dsimp only at hSw); first | (go_simp; done) | (go_simp; with_reducible rfl)
            try simp only [Act.put, List.getElem_toArray, List.getElem_cons_zero, List.getElem_cons_succ, List.setIfInBounds_toArray, List.set_cons_zero, List.set_cons_succ]
            refine wpAnyH_take (i := 23) (oi := _) (v := ?_) rfl (by kernel_rfl) (by kernel_rfl) (by kernel_rfl) (fun _ _ _ h => h) (Or.inl ⟨by rfl, ?_⟩) (by assumption) ?_
            rotate_left
            · intro w hSw; (try dsimp only at hSw); first | (go_simp; done) | (go_simp; with_reducible rfl)
            try simp only [Act.put, List.getElem_toArray, List.getElem_cons_zero, List.getElem_cons_succ, List.setIfInBounds_toArray, List.set_cons_zero, List.set_cons_succ]
            refine wpAnyH_take (i := 24) (oi := _) (v := ?_) rfl (by kernel_rfl) (by kernel_rfl) (by kernel_rfl) (fun _ _ _ h => h) (Or.inl ⟨by rfl, ?_⟩) (by assumption) ?_
            rotate_left
            · intro w hSw; (try dsimp only at hSw); first | (go_simp; done) | (go_simp; with_reducible rfl)
            try simp only [Act.put, List.getElem_toArray, List.getElem_cons_zero, List.getElem_cons_succ, List.setIfInBounds_toArray, List.set_cons_zero, List.set_cons_succ]
            refine wpAnyH_ready (rs := [25]) (by kernel_rfl) (by simp) ?_
            refine AllReadyH.cons (o := _) rfl (fun K hK => ?_) AllReadyH.nil
            go_simp
            (refine (HSS.out y x _ q1).mono ?_; rintro e y2 ⟨_, rfl, rfl, hy2⟩; have q2 := q1.trans (hy2.mono q1.size))
            refine hK.out _ _ ?_ (fun hHeld => ?_)
            · first | exact HK.out _ q2 | exact HK.out _ q1 | exact HK.out _ q0
            clear hK K
            try simp only [Act.put, List.getElem_toArray, List.getElem_cons_zero, List.getElem_cons_succ, List.setIfInBounds_toArray, List.set_cons_zero, List.set_cons_succ]
            refine wpAnyH_take (i := 26) (oi := _) (v := ?_) rfl (by kernel_rfl) (by kernel_rfl) (by kernel_rfl) (fun _ _ _ h => h) (Or.inl ⟨by rfl, ?_⟩) (by assumption) ?_
            rotate_left
            · intro w hSw; (try dsimp only at hSw); first | (go_simp; done) | (go_simp; with_reducible rfl)
            try simp only [Act.put, List.getElem_toArray, List.getElem_cons_zero, List.getElem_cons_succ, List.setIfInBounds_toArray, List.set_cons_zero, List.set_cons_succ]
            refine wpAnyH_take (i := 27) (oi := _) (v := ?_) rfl (by kernel_rfl) (by kernel_rfl) (by kernel_rfl) (fun _ _ _ h => h) (Or.inl ⟨by rfl, ?_⟩) (by assumption) ?_
            rotate_left
            · intro w hSw; (try dsimp only at hSw); first | (go_simp; done) | (go_simp; with_reducible rfl)
            try simp only [Act.put, List.getElem_toArray, List.getElem_cons_zero, List.getElem_cons_succ, List.setIfInBounds_toArray, List.set_cons_zero, List.set_cons_succ]
            refine wpAnyH_done (by kernel_rfl) ?_ _
            have e02 := (q2.cell (p := ⟨bf, of' + j * 2, none⟩) hbfr).trans e0
            have e12 := (q2.cell (p := ⟨bf, of' + j * 2 + 1, none⟩) hbfr).trans e1
            have b13q := b13r.below q2 b13r.lt
            have hgq := gb_below hgb q2
            clear m0 m1 e0 e1 q0 q1 hy1 hy2 HK HSS
            by_cases hs2 : sideI T y x < 0
            · have HN2 : Hid (newE T (E2.take (j + 1)) = (x, y)) := by unfold Hid; rw [HN.out, if_pos ⟨hs1, hs2⟩]
              have c0 := b13q.cell 0 rfl
              have c1 := b13q.cell 1 rfl
              have d0 := b13q.frozen 0
              have d1 := b13q.frozen 1
              clear hs1 HN
              go_wp2_with fail
              go_roundw
              case rel => exact ⟨j + 1, by go_num, by omega, by rw [HN2.out]; exact (b13q.set 0 _).set 1 _, gb_set (gb_set hgq 0 _) 1 _⟩
              case measure => simp [RowKit.intOf]; omega
            · have HN2 : Hid (newE T (E2.take (j + 1)) = newE T (E2.take j)) := by unfold Hid; rw [HN.out, if_neg (fun h => hs2 h.2)]
              clear hs1 HN
              go_wp2_with fail
              go_roundw
              case rel => exact ⟨j + 1, by go_num, by omega, by rw [HN2.out]; exact b13q, hgq⟩
              case measure => simp [RowKit.intOf]; omega
          · have hd1 : decide (sideI T x y < 0) = false := decide_eq_false hs1
            have HN2 : Hid (newE T (E2.take (j + 1)) = newE T (E2.take j)) := by unfold Hid; rw [HN.out, if_neg (fun h => hs1 h.1)]
            go_upto_region 19 with fail
            refine wp_region_held_drew (S := (fun w' => (w'.cell? ⟨o2.heap.size, 0, none⟩ = some (.slice pp P.length cp) ∧ w'.cell? ⟨o2.heap.size, 1, none⟩ = some (.slice pt T.length ct)) ∧ w'.cell? ⟨bf, of' + j * 2, none⟩ = some (.int .i64 x) ∧ w'.cell? ⟨bf, of' + j * 2 + 1, none⟩ = some (.int .i64 y))) (by kernel_rfl) ?_ (fun hHeld => ?_)
            · first | exact HK.out _ q1 | exact HK.out _ q0
            refine wpAnyH_take (i := 0) (oi := _) (v := ?_) rfl (by kernel_rfl) (by kernel_rfl) (by kernel_rfl) (fun _ _ _ h => h) (Or.inl ⟨by rfl, ?_⟩) (by assumption) ?_
            rotate_left
            · intro w hSw; (try dsimp only at hSw); first | (go_simp; done) | (go_simp; with_reducible rfl)
            try simp only [Act.put, List.getElem_toArray, List.getElem_cons_zero, List.setIfInBounds_toArray, List.set_cons_zero, List.set_cons_succ]
            refine wpAnyH_take (i := 1) (oi := _) (v := ?_) rfl (by kernel_rfl) (by kernel_rfl) (by kernel_rfl) (fun _ _ _ h => h) (Or.inl ⟨by rfl, ?_⟩) (by assumption) ?_
            rotate_left
            · intro w hSw; (try dsimp only at hSw); first | (go_simp; done) | (go_simp; with_reducible rfl)
            try simp only [Act.put, List.getElem_toArray, List.getElem_cons_zero, List.getElem_cons_succ, List.setIfInBounds_toArray, List.set_cons_zero, List.set_cons_succ]
            refine wpAnyH_take (i := 2) (oi := _) (v := ?_) rfl (by kernel_rfl) (by kernel_rfl) (by kernel_rfl) (fun _ _ _ h => h) (Or.inl ⟨by rfl, ?_⟩) (by assumption) ?_
            rotate_left
            · intro w hSw; (try dsimp only at hSw); first | (go_simp; done) | (go_simp; with_reducible rfl)
            try simp only [Act.put, List.getElem_toArray, List.getElem_cons_zero, List.getElem_cons_succ, List.setIfInBounds_toArray, List.set_cons_zero, List.set_cons_succ]
            refine wpAnyH_take (i := 3) (oi := _) (v := ?_) rfl (by kernel_rfl) (by kernel_rfl) (by kernel_rfl) (fun _ _ _ h => h) (Or.inl ⟨by rfl, ?_⟩) (by assumption) ?_
            rotate_left
            · intro w hSw; (try dsimp only at hSw); first | (go_simp; done) | (go_simp; with_reducible rfl)
            try simp only [Act.put, List.getElem_toArray, List.getElem_cons_zero, List.getElem_cons_succ, List.setIfInBounds_toArray, List.set_cons_zero, List.set_cons_succ]
            refine wpAnyH_take (i := 4) (oi := _) (v := ?_) rfl (by kernel_rfl) (by kernel_rfl) (by kernel_rfl) (fun _ _ _ h => h) (Or.inl ⟨by rfl, ?_⟩) (by assumption) ?_
            rotate_left
            · intro w hSw; (try dsimp only at hSw); first | (go_simp; done) | (go_simp; with_reducible rfl)
            try simp only [Act.put, List.getElem_toArray, List.getElem_cons_zero, List.getElem_cons_succ, List.setIfInBounds_toArray, List.set_cons_zero, List.set_cons_succ]
            refine wpAnyH_take (i := 5) (oi := _) (v := ?_) rfl (by kernel_rfl) (by kernel_rfl) (by kernel_rfl) (fun _ _ _ h => h) (Or.inl ⟨by rfl, ?_⟩) (by assumption) ?_
            rotate_left
            · intro w hSw; (try dsimp only at hSw); first | (go_simp; done) | (go_simp; with_reducible rfl)
            try simp only [Act.put, List.getElem_toArray, List.getElem_cons_zero, List.getElem_cons_succ, List.setIfInBounds_toArray, List.set_cons_zero, List.set_cons_succ]
            refine wpAnyH_take (i := 6) (oi := _) (v := ?_) rfl (by kernel_rfl) (by kernel_rfl) (by kernel_rfl) (fun _ _ _ h => h) (Or.inl ⟨by rfl, ?_⟩) (by assumption) ?_
            rotate_left
            · intro w hSw; (try dsimp only at hSw); first | (go_simp; done) | (go_simp; with_reducible rfl)
            try simp only [Act.put, List.getElem_toArray, List.getElem_cons_zero, List.getElem_cons_succ, List.setIfInBounds_toArray, List.set_cons_zero, List.set_cons_succ]
            refine wpAnyH_take (i := 7) (oi := _) (v := ?_) rfl (by kernel_rfl) (by kernel_rfl) (by kernel_rfl) (fun _ _ _ h => h) (Or.inl ⟨by rfl, ?_⟩) (by assumption) ?_
            rotate_left
            · intro w hSw; (try dsimp only at hSw); first | (go_simp; done) | (go_simp; with_reducible rfl)
            try simp only [Act.put, List.getElem_toArray, List.getElem_cons_zero, List.getElem_cons_succ, List.setIfInBounds_toArray, List.set_cons_zero, List.set_cons_succ]
            refine wpAnyH_take (i := 8) (oi := _) (v := ?_) rfl (by kernel_rfl) (by kernel_rfl) (by kernel_rfl) (fun _ _ _ h => h) (Or.inl ⟨by rfl, ?_⟩) (by assumption) ?_
            rotate_left
            · intro w hSw; (try dsimp only at hSw); first | (go_simp; done) | (go_simp; with_reducible rfl)
            try simp only [Act.put, List.getElem_toArray, List.getElem_cons_zero, List.getElem_cons_succ, List.setIfInBounds_toArray, List.set_cons_zero, List.set_cons_succ]
            refine wpAnyH_take (i := 9) (oi := _) (v := ?_) rfl (by kernel_rfl) (by kernel_rfl) (by kernel_rfl) (fun _ _ _ h => h) (Or.inl ⟨by rfl, ?_⟩) (by assumption) ?_
            rotate_left
            · intro w hSw; (try dsimp only at hSw); first | (go_simp; done) | (go_simp; with_reducible rfl)
            try simp only [Act.put, List.getElem_toArray, List.getElem_cons_zero, List.getElem_cons_succ, List.setIfInBounds_toArray, List.set_cons_zero, List.set_cons_succ]
            refine wpAnyH_take (i := 10) (oi := _) (v := ?_) rfl (by kernel_rfl) (by kernel_rfl) (by kernel_rfl) (fun _ _ _ h => h) (Or.inl ⟨by rfl, ?_⟩) (by assumption) ?_
            rotate_left
            · intro w hSw; (try dsimp only at hSw); first | (go_simp; done) | (go_simp; with_reducible rfl)
            try simp only [Act.put, List.getElem_toArray, List.getElem_cons_zero, List.getElem_cons_succ, List.setIfInBounds_toArray, List.set_cons_zero, List.set_cons_succ]
            refine wpAnyH_ready (rs := [11]) (by kernel_rfl) (by simp) ?_
            refine AllReadyH.cons (o := _) rfl (fun K hK => ?_) AllReadyH.nil
            go_simp
            (refine (HSS.out x y _ q0).mono ?_; rintro e y1 ⟨_, rfl, rfl, hy1⟩; have q1 := q0.trans (hy1.mono q0.size))
            refine hK.out _ _ ?_ (fun hHeld => ?_)
            · first | exact HK.out _ q1 | exact HK.out _ q0
            clear hK K
            try simp only [Act.put, List.getElem_toArray, List.getElem_cons_zero, List.getElem_cons_succ, List.setIfInBounds_toArray, List.set_cons_zero, List.set_cons_succ]
            refine wpAnyH_take (i := 12) (oi := _) (v := ?_) rfl (by kernel_rfl) (by kernel_rfl) (by kernel_rfl) (fun _ _ _ h => h) (Or.inl ⟨by rfl, ?_⟩) (by assumption) ?_
            rotate_left
            · intro w hSw; (try dsimp only at hSw); first | (go_simp; done) | (go_simp; with_reducible rfl)
            try simp only [Act.put, List.getElem_toArray, List.getElem_cons_zero, List.getElem_cons_succ, List.setIfInBounds_toArray, List.set_cons_zero, List.set_cons_succ]
            refine wpAnyH_take (i := 13) (oi := _) (v := ?_) rfl (by kernel_rfl) (by kernel_rfl) (by kernel_rfl) (fun _ _ _ h => h) (Or.inl ⟨by rfl, ?_⟩) (by assumption) ?_
            rotate_left
            · intro w hSw; (try dsimp only at hSw); first | (go_simp; done) | (go_simp; with_reducible rfl)
            try simp only [Act.put, List.getElem_toArray, List.getElem_cons_zero, List.getElem_cons_succ, List.setIfInBounds_toArray, List.set_cons_zero, List.set_cons_succ]
            refine wpAnyH_take (i := 14) (oi := _) (v := undef) rfl (by kernel_rfl) (by kernel_rfl) (by kernel_rfl) (fun _ _ _ h => h) (Or.inr ⟨by rfl, rfl⟩) (by assumption) ?_
            try simp only [Act.put, List.getElem_toArray, List.getElem_cons_zero, List.getElem_cons_succ, List.setIfInBounds_toArray, List.set_cons_zero, List.set_cons_succ]
            refine wpAnyH_take (i := 15) (oi := _) (v := undef) rfl (by kernel_rfl) (by kernel_rfl) (by kernel_rfl) (fun _ _ _ h => h) (Or.inr ⟨by rfl, rfl⟩) (by assumption) ?_
            try simp only [Act.put, List.getElem_toArray, List.getElem_cons_zero, List.getElem_cons_succ, List.setIfInBounds_toArray, List.set_cons_zero, List.set_cons_succ]
            refine wpAnyH_take (i := 16) (oi := _) (v := undef) rfl (by kernel_rfl) (by kernel_rfl) (by kernel_rfl) (fun _ _ _ h => h) (Or.inr ⟨by rfl, rfl⟩) (by assumption) ?_
            try simp only [Act.put, List.getElem_toArray, List.getElem_cons_zero, List.getElem_cons_succ, List.setIfInBounds_toArray, List.set_cons_zero, List.set_cons_succ]
            refine wpAnyH_take (i := 17) (oi := _) (v := undef) rfl (by kernel_rfl) (by kernel_rfl) (by kernel_rfl) (fun _ _ _ h => h) (Or.inr ⟨by rfl, rfl⟩) (by assumption) ?_
            try simp only [Act.put, List.getElem_toArray, List.getElem_cons_zero, List.getElem_cons_succ, List.setIfInBounds_toArray, List.set_cons_zero, List.set_cons_succ]
            refine wpAnyH_take (i := 18) (oi := _) (v := undef) rfl (by kernel_rfl) (by kernel_rfl) (by kernel_rfl) (fun _ _ _ h => h) (Or.inr ⟨by rfl, rfl⟩) (by assumption) ?_
            try simp only [Act.put, List.getElem_toArray, List.getElem_cons_zero, List.getElem_cons_succ, List.setIfInBounds_toArray, List.set_cons_zero, List.set_cons_succ]
            refine wpAnyH_take (i := 19) (oi := _) (v := undef) rfl (by kernel_rfl) (by kernel_rfl) (by kernel_rfl) (fun _ _ _ h => h) (Or.inr ⟨by rfl, rfl⟩) (by assumption) ?_
            try simp only [Act.put, List.getElem_toArray, List.getElem_cons_zero, List.getElem_cons_succ, List.setIfInBounds_toArray, List.set_cons_zero, List.set_cons_succ]
            refine wpAnyH_take (i := 20) (oi := _) (v := undef) rfl (by kernel_rfl) (by kernel_rfl) (by kernel_rfl) (fun _ _ _ h => h) (Or.inr ⟨by rfl, rfl⟩) (by assumption) ?_
            try simp only [Act.put, List.getElem_toArray, List.getElem_cons_zero, List.getElem_cons_succ, List.setIfInBounds_toArray, List.set_cons_zero, List.set_cons_succ]
            refine wpAnyH_take (i := 21) (oi := _) (v := undef) rfl (by kernel_rfl) (by kernel_rfl) (by kernel_rfl) (fun _ _ _ h => h) (Or.inr ⟨by rfl, rfl⟩) (by assumption) ?_
            try simp only [Act.put, List.getElem_toArray, List.getElem_cons_zero, List.getElem_cons_succ, List.setIfInBounds_toArray, List.set_cons_zero, List.set_cons_succ]
            refine wpAnyH_take (i := 22) (oi := _) (v := undef) rfl (by kernel_rfl) (by kernel_rfl) (by kernel_rfl) (fun _ _ _ h => h) (Or.inr ⟨by rfl, rfl⟩) (by assumption) ?_
            try simp only [Act.put, List.getElem_toArray, List.getElem_cons_zero, List.getElem_cons_succ, List.setIfInBounds_toArray, List.set_cons_zero, List.set_cons_succ]
            refine wpAnyH_take (i := 23) (oi := _) (v := undef) rfl (by kernel_rfl) (by kernel_rfl) (by kernel_rfl) (fun _ _ _ h => h) (Or.inr ⟨by rfl, rfl⟩) (by assumption) ?_
            try simp only [Act.put, List.getElem_toArray, List.getElem_cons_zero, List.getElem_cons_succ, List.setIfInBounds_toArray, List.set_cons_zero, List.set_cons_succ]
            refine wpAnyH_take (i := 24) (oi := _) (v := undef) rfl (by kernel_rfl) (by kernel_rfl) (by kernel_rfl) (fun _ _ _ h => h) (Or.inr ⟨by rfl, rfl⟩) (by assumption) ?_
            try simp only [Act.put, List.getElem_toArray, List.getElem_cons_zero, List.getElem_cons_succ, List.setIfInBounds_toArray, List.set_cons_zero, List.set_cons_succ]
            refine wpAnyH_ready (rs := [25]) (by kernel_rfl) (by simp) ?_
            refine AllReadyH.cons (o := _) rfl (fun K hK => ?_) AllReadyH.nil
            go_simp
            refine hK.out _ _ (by assumption) (fun hHeld => ?_)
            clear hK K
            try simp only [Act.put, List.getElem_toArray, List.getElem_cons_zero, List.getElem_cons_succ, List.setIfInBounds_toArray, List.set_cons_zero, List.set_cons_succ]
            refine wpAnyH_take (i := 26) (oi := _) (v := undef) rfl (by kernel_rfl) (by kernel_rfl) (by kernel_rfl) (fun _ _ _ h => h) (Or.inr ⟨by rfl, rfl⟩) (by assumption) ?_
            try simp only [Act.put, List.getElem_toArray, List.getElem_cons_zero, List.getElem_cons_succ, List.setIfInBounds_toArray, List.set_cons_zero, List.set_cons_succ]
            refine wpAnyH_take (i := 27) (oi := _) (v := ?_) rfl (by kernel_rfl) (by kernel_rfl) (by kernel_rfl) (fun _ _ _ h => h) (Or.inl ⟨by rfl, ?_⟩) (by assumption) ?_
            rotate_left
            · intro w hSw; (try dsimp only at hSw); first | (go_simp; done) | (go_simp; with_reducible rfl)
            try simp only [Act.put, List.getElem_toArray, List.getElem_cons_zero, List.getElem_cons_succ, List.setIfInBounds_toArray, List.set_cons_zero, List.set_cons_succ]
            refine wpAnyH_done (by kernel_rfl) ?_ _
            have b13q := b13r.below q1 b13r.lt
            have hgq := gb_below hgb q1
            clear m0 m1 e0 e1 q0 hy1 HK HSS
            go_wp2_with fail
            go_roundw
            case rel => exact ⟨j + 1, by go_num, by omega, by rw [HN2.out]; exact b13q, hgq⟩
            case measure => simp [RowKit.intOf]; omega
        · have hjn : ¬ (j : Int) < (E2.length : Int) := by omega
          rw [List.take_of_length_le h, HNW.out] at b13r
          dsimp only at b13r
          have HPr := Lib.hid (RdC.below HP7.out hb7r)
          have HTr := Lib.hid (RdC.below HT7.out hb7r)
          have m0 := b10r.cell 0 rfl
          have m1 := b10r.cell 1 rfl
          have c0 := b13r.cell 0 rfl
          have c1 := b13r.cell 1 rfl
          go_wp2_with fail
          refine (HTU2.out wr _ _ HPr.out HTr.out (hg.below hBr)).mono ?_
          rintro e v1 ⟨_, rfl, ⟨p4, n4, c4, p5, c5, rfl, hp4, ht4⟩, hv1⟩
          have hBv := hBr.trans (hv1.mono hBr.size)
          have h2v := h2r.trans (hv1.mono h2r.size)
          have b5v := b5r.below hv1 b5r.lt
          clear m0 m1 c0 c1 b5r b10r b13r HPr HTr hv1 hBr h2r HTU2
          obtain ⟨o, ho⟩ : ∃ W, W = v1.alloc (.cells #[.slice p4 n4 c4, .slice p5 T.length c5] 34) := ⟨_, rfl⟩
          have hbo : Below v1.heap.size v1 o := by rw [ho]; exact (Below.refl _ _).alloc (Nat.le_refl _) _
          have b16 : BoxN o v1.heap.size 34 [.slice p4 n4 c4, .slice p5 T.length c5] := by rw [ho]; exact BoxN.new _ _ _ _ rfl
          go_upto_region 22 with fail
          rw [← ho]
          clear ho
          have hBo := hBv.trans (hbo.mono hBv.size)
          have h2o := h2v.trans (hbo.mono h2v.size)
          have b5o := b5v.below hbo b5v.lt
          have HP4 := Lib.hid (RdC.below hp4 hbo)
          have HT4 := Lib.hid (RdC.below ht4 hbo)
          clear hbo hBv h2v b5v hp4 ht4
          have m1 := b5o.cell 1 rfl
          have n1 := b16.cell 1 rfl
          have hnn : ((T.length : Int) != (T.length : Int)) = false := bne_self_eq_false _
          go_wp2_with fail
          clear m1 n1
          go_loopw [17] (fun t17 wr => ∃ j : Nat, t17 = .int .i64 j ∧ j ≤ T.length ∧ Below o.heap.size o wr) (fun t17 _ => T.length - (RowKit.intOf t17).toNat)
          case atStart => exact ⟨0, rfl, Nat.zero_le _, Below.refl _ _⟩
          case round =>
            obtain ⟨j, rfl, hj, hbx⟩ := hrel
            have hBx := hBo.trans (hbx.mono hBo.size)
            have h2x := h2o.trans (hbx.mono h2o.size)
            have b5x := b5o.below hbx b5o.lt
            have b16x := b16.below hbx b16.lt
            have m1 := b5x.cell 1 rfl
            rcases Nat.lt_or_ge j T.length with h | h
            · obtain ⟨tr, htr⟩ : ∃ tr, T[j]? = some tr := ⟨_, List.getElem?_eq_getElem h⟩
              obtain ⟨hk1, hk2⟩ := HBK.out j tr htr
              obtain ⟨pt', ct', e1, _, _, hct⟩ := HTT.out.open
              injection e1 with e1 _ e3
              subst e3
              obtain ⟨bt, ot, e2, hbt, htc⟩ := hct (fun e => by rw [e] at h; exact absurd h (Nat.not_lt_zero _))
              obtain rfl := e1.trans e2
              obtain ⟨k0', k1', k2'⟩ := htc j h
              have ht' : T[j] = tr := (List.getElem?_eq_some_iff.1 htr).2
              rw [ht'] at k0' k1' k2'
              have k0 := (h2x.cell (p := ⟨bt, ot + j * 3, none⟩) hbt).trans k0'
              have k1 := (h2x.cell (p := ⟨bt, ot + j * 3 + 1, none⟩) hbt).trans k1'
              have k2 := (h2x.cell (p := ⟨bt, ot + j * 3 + 2, none⟩) hbt).trans k2'
              have hjz : (j : Int) < (T.length : Int) := by omega
              have hw1 : IntKind.i64.wrap ((j : Int) + 1) = (j : Int) + 1 := IntWalk.i64_in _ (by omega)
              clear htr hct htc k0' k1' k2' ht' e1 e2
              obtain ⟨oo, hoo⟩ : ∃ W, W = wr.alloc (.cells #[.int .i64 tr.1, .int .i64 tr.2.1, .int .i64 tr.2.2] 42) := ⟨_, rfl⟩
              have hbo2 : Below wr.heap.size wr oo := by rw [hoo]; exact (Below.refl _ _).alloc (Nat.le_refl _) _
              have b18 : BoxN oo wr.heap.size 42 [.int .i64 tr.1, .int .i64 tr.2.1, .int .i64 tr.2.2] := by rw [hoo]; exact BoxN.new _ _ _ _ rfl
              go_upto_region 28 with fail
              rw [← hoo]
              clear hoo m1 k0 k1 k2
              have hbx2 := hbx.trans (hbo2.mono hbx.size)
              have b16y := b16x.below hbo2 b16x.lt
              have n0 := b16y.cell 0 rfl
              have n1 := b16y.cell 1 rfl
              have t0 := b18.cell 0 rfl
              have t1 := b18.cell 1 rfl
              clear hbo2 b16x b5x hBx h2x hbx
              obtain ⟨z, hz⟩ : ∃ z, z = sideI T3 tr.1 tr.2.1 := ⟨_, rfl⟩
              have HS1 : Hid (∀ (w : World) (vp vt : Value), RdP w vp (strP P) → RdT w vt T3 → Calls Tryz.prog 36 #[.agg #[vp, vt], .int .i64 tr.1, .int .i64 tr.2.1] w (Ret (fun r _ => r = .int .i64 z) w)) := fun w vp vt hp ht => by rw [hz]; exact HSB.out _ _ w vp vt hp ht
              have HS2 : Hid (∀ (w : World) (vp vt : Value), RdP w vp (strP P) → RdT w vt T3 → Calls Tryz.prog 36 #[.agg #[vp, vt], .int .i64 tr.2.1, .int .i64 tr.2.2] w (Ret (fun r _ => r = .int .i64 z) w)) := fun w vp vt hp ht => by rw [hz, hk2]; exact HSB.out _ _ w vp vt hp ht
              have hz0 : ¬ z < 0 := by rw [hz]; omega
              have hzd : decide (z < 0) = false := decide_eq_false hz0
              have hzz : (z != z) = false := bne_self_eq_false _
              clear hz hk1 hk2
              go_wp2_with fail
              refine (HS1.out oo _ _ (RdC.below HP4.out hbx2) (RdC.below HT4.out hbx2)).mono ?_
              rintro e v2 ⟨_, rfl, rfl, hv2⟩
              have hbx3 := hbx2.trans (hv2.mono hbx2.size)
              have b16z := b16y.below hv2 b16y.lt
              have b18z := b18.below hv2 b18.lt
              clear n0 n1 t0 t1 b16y b18 hbx2 hv2
              have n0 := b16z.cell 0 rfl
              have n1 := b16z.cell 1 rfl
              have t1 := b18z.cell 1 rfl
              have t2 := b18z.cell 2 rfl
              go_wp2_with fail
              refine (HS2.out v2 _ _ (RdC.below HP4.out hbx3) (RdC.below HT4.out hbx3)).mono ?_
              rintro e v3 ⟨_, rfl, rfl, hv3⟩
              have hbx4 := hbx3.trans (hv3.mono hbx3.size)
              clear n0 n1 t1 t2 b16z b18z hbx3 hv3
              go_wp2_with fail
              go_roundw
              case rel => exact ⟨j + 1, by go_num, by omega, hbx4⟩
              case measure => simp [RowKit.intOf]; omega
            · have hjn : ¬ (j : Int) < (T.length : Int) := by omega
              go_wp2_with fail
              go_ret
              exact ⟨_, rfl, rfl, hBx⟩

end Go.Proofs.YtccngnjkehibiaaGreatDoor
