/- Level lines: the plain words. -/
import Derived.Test.YtccngnjkehibiaaGreatDoorE2
namespace Go.Proofs.YtccngnjkehibiaaGreatDoor
open Go.RowKit Go.Lib

/-- A segment: the triangle, from, to. -/
abbrev Seg := Int × PtQ × PtQ
def cellG (s : Seg) : List Value := [.int .i64 s.1, .string (RS s.2.1.1), .string (RS s.2.1.2), .string (RS s.2.2.1), .string (RS s.2.2.2)]
def cellsG (l : List Seg) : List Value := l.flatMap cellG
def RdG (w : World) (v : Value) (l : List Seg) : Prop := RdC 5 w v l.length (cellsG l)
theorem cellsG_snoc (l : List Seg) (s : Seg) : cellsG (l ++ [s]) = cellsG l ++ [.int .i64 s.1, .string (RS s.2.1.1), .string (RS s.2.1.2), .string (RS s.2.2.1), .string (RS s.2.2.2)] := by simp [cellsG, cellG]

/-- The triangle beyond a side, or -1. -/
def nbI (T : List Tri) (s : Edge) : Int := match (ownL T).find? (fun x => x.1 == revE s) with | some x => x.2 | none => -1
theorem ownL_ix {T : List Tri} {x : Edge × Int} (h : x ∈ ownL T) : ∃ j : Nat, x.2 = (j : Int) ∧ j < T.length := by
  unfold ownL at h
  obtain ⟨y, hy, hx⟩ := List.mem_flatMap.1 h
  obtain ⟨s, _, rfl⟩ := List.mem_map.1 hx
  obtain ⟨_, h2, _⟩ := List.mem_zipIdx hy
  exact ⟨y.2, rfl, by omega⟩
theorem nbI_lt {T : List Tri} {s : Edge} (h : 0 ≤ nbI T s) : ∃ j : Nat, nbI T s = (j : Int) ∧ j < T.length := by
  unfold nbI at h ⊢
  cases e : (ownL T).find? (fun x => x.1 == revE s) with
  | none => rw [e] at h; exact absurd h (by decide)
  | some x => exact ownL_ix (List.mem_of_find?_eq_some e)
theorem nbI_some {T : List Tri} {s : Edge} (h : revE s ∈ (ownL T).map (·.1)) : (revE s, nbI T s) ∈ ownL T := by
  unfold nbI
  cases e : (ownL T).find? (fun x => x.1 == revE s) with
  | none =>
    obtain ⟨x, hx, hx2⟩ := List.mem_map.1 h
    have := List.find?_eq_none.1 e x hx
    simp [hx2] at this
  | some x =>
    have h1 := List.mem_of_find?_eq_some e
    have h2 := List.find?_some e
    simp at h2
    rw [← h2]; exact h1
theorem nbI_none {T : List Tri} {s : Edge} (h : revE s ∉ (ownL T).map (·.1)) : nbI T s = -1 := by
  unfold nbI
  cases e : (ownL T).find? (fun x => x.1 == revE s) with
  | none => rfl
  | some x =>
    have h1 := List.mem_of_find?_eq_some e
    have h2 := List.find?_some e
    simp at h2
    exact absurd (List.mem_map.2 ⟨x, h1, h2⟩) h

def corP (P : List PtQ) (F : List Rat) (z : Int) : Cor := (ptI P z, hI F z)
/-- The part of a triangle above a height. -/
def partT (P : List PtQ) (F : List Rat) (z : Rat) (tr : Tri) : List Cor := cutL (corP P F tr.1) (corP P F tr.2.1) (corP P F tr.2.2) z
def sideT (P : List PtQ) (tr : Tri) (a b : PtQ) : Int := sideL (ptI P tr.1) (ptI P tr.2.1) (ptI P tr.2.2) a b
def nbT (T : List Tri) (tr : Tri) (k : Int) : Int := nbI T (if k = 0 then sideK tr 0 else if k = 1 then sideK tr 1 else sideK tr 2)
def triI (T : List Tri) (j : Int) : Tri := T[j.toNat]?.getD (0, 0, 0)
theorem triI_nat (T : List Tri) (m : Nat) (h : m < T.length) : triI T (m : Int) = T[m] := by
  unfold triI; rw [Int.toNat_natCast, List.getElem?_eq_getElem h]; rfl
def corI (l : List Cor) (i : Nat) : Cor := l[i]?.getD ((0, 0), 0)
theorem corI_nat (l : List Cor) (i : Nat) (h : i < l.length) : corI l i = l[i] := by
  unfold corI; rw [List.getElem?_eq_getElem h]; rfl
/-- Is the piece between two corners of a part a level line? -/
def keepB (P : List PtQ) (T : List Tri) (F : List Rat) (z : Rat) (tr : Tri) (a b : Cor) : Bool :=
  decide (a.2 = z) && decide (b.2 = z) && (decide (sideT P tr a.1 b.1 < 0) || (decide (0 ≤ nbT T tr (sideT P tr a.1 b.1)) && (partT P F z (triI T (nbT T tr (sideT P tr a.1 b.1)))).isEmpty))
def segA (P : List PtQ) (T : List Tri) (F : List Rat) (z : Rat) (t : Nat) (tr : Tri) (l : List Cor) (i : Nat) : List Seg :=
  if keepB P T F z tr (corI l i) (corI l ((i + 1) % l.length)) then [((t : Int), (corI l i).1, (corI l ((i + 1) % l.length)).1)] else []
def segTo (P : List PtQ) (T : List Tri) (F : List Rat) (z : Rat) (t : Nat) (tr : Tri) (l : List Cor) : Nat → List Seg | 0 => [] | i + 1 => segTo P T F z t tr l i ++ segA P T F z t tr l i
def levTo (P : List PtQ) (T : List Tri) (F : List Rat) (z : Rat) : Nat → List Seg
  | 0 => []
  | t + 1 => levTo P T F z t ++ segTo P T F z t (triI T t) (partT P F z (triI T t)) (partT P F z (triI T t)).length
/-- The level lines. -/
def levelL (P : List PtQ) (T : List Tri) (F : List Rat) (z : Rat) : List Seg := levTo P T F z T.length

theorem segTo_len (P : List PtQ) (T : List Tri) (F : List Rat) (z : Rat) (t : Nat) (tr : Tri) (l : List Cor) : ∀ i, (segTo P T F z t tr l i).length ≤ i
  | 0 => Nat.le_refl _
  | i + 1 => by
    have h := segTo_len P T F z t tr l i
    unfold segTo segA
    rw [List.length_append]
    split <;> simp <;> omega
theorem cutL_len (c0 c1 c2 : Cor) (z : Rat) : (cutL c0 c1 c2 z).length ≤ 6 := by
  unfold cutL
  split
  · exact cutTo_len c0 c1 c2 z 3
  · simp
theorem levTo_len (P : List PtQ) (T : List Tri) (F : List Rat) (z : Rat) : ∀ t, (levTo P T F z t).length ≤ 6 * t
  | 0 => Nat.le_refl _
  | t + 1 => by
    have h := levTo_len P T F z t
    have h1 := segTo_len P T F z t (triI T t) (partT P F z (triI T t)) (partT P F z (triI T t)).length
    have h2 : (partT P F z (triI T t)).length ≤ 6 := cutL_len _ _ _ _
    unfold levTo
    rw [List.length_append]
    omega

/-- The sizes of the places of a part. -/
theorem cross_Sz {a b : Cor} {z : Rat} {k m : Nat} (ha : SzP k a.1 ∧ Sz k a.2) (hb : SzP k b.1 ∧ Sz k b.2) (hz : Sz m z) : SzP (6 * k + 3 * m + 6) (crossK a b z).1 := by
  have d1 := ha.2.sub hz
  have d2 := hb.2.sub hz
  have dd := d1.div (d1.sub d2) (by omega)
  unfold crossK towQ
  exact ⟨(ha.1.1.add (dd.mul (hb.1.1.sub ha.1.1))).mono (by omega), (ha.1.2.add (dd.mul (hb.1.2.sub ha.1.2))).mono (by omega)⟩
theorem cutS_Sz {a b : Cor} {z : Rat} {k m : Nat} (ha : SzP k a.1 ∧ Sz k a.2) (hb : SzP k b.1 ∧ Sz k b.2) (hz : Sz m z) : ∀ c ∈ cutS a b z, SzP (6 * k + 3 * m + 6) c.1 := by
  intro c hc
  unfold cutS at hc
  rcases List.mem_append.1 hc with h | h
  · split at h
    · simp at h; subst h
      exact ⟨ha.1.1.mono (by omega), ha.1.2.mono (by omega)⟩
    · simp at h
  · split at h
    · simp at h; subst h
      exact cross_Sz ha hb hz
    · simp at h
theorem cutTo_Sz {c0 c1 c2 : Cor} {z : Rat} {k m : Nat} (h0 : SzP k c0.1 ∧ Sz k c0.2) (h1 : SzP k c1.1 ∧ Sz k c1.2) (h2 : SzP k c2.1 ∧ Sz k c2.2) (hz : Sz m z) : ∀ (i : Nat), ∀ c ∈ cutTo c0 c1 c2 z i, SzP (6 * k + 3 * m + 6) c.1
  | 0 => fun c hc => by simp [cutTo] at hc
  | i + 1 => fun c hc => by
    unfold cutTo at hc
    rcases List.mem_append.1 hc with h | h
    · exact cutTo_Sz h0 h1 h2 hz i c h
    · refine cutS_Sz ?_ ?_ hz c h
      · unfold corA; split <;> assumption
      · unfold corB; split <;> assumption
theorem cutL_Sz {c0 c1 c2 : Cor} {z : Rat} {k m : Nat} (h0 : SzP k c0.1 ∧ Sz k c0.2) (h1 : SzP k c1.1 ∧ Sz k c1.2) (h2 : SzP k c2.1 ∧ Sz k c2.2) (hz : Sz m z) (c : Cor) (hc : c ∈ cutL c0 c1 c2 z) : SzP (6 * k + 3 * m + 6) c.1 := by
  unfold cutL at hc
  split at hc
  · exact cutTo_Sz h0 h1 h2 hz 3 c hc
  · simp at hc

theorem sideL_cases (c0 c1 c2 a b : PtQ) : sideL c0 c1 c2 a b = -1 ∨ sideL c0 c1 c2 a b = 0 ∨ sideL c0 c1 c2 a b = 1 ∨ sideL c0 c1 c2 a b = 2 := by
  unfold sideL
  split
  · exact .inr (.inl rfl)
  · split
    · exact .inr (.inr (.inl rfl))
    · split
      · exact .inr (.inr (.inr rfl))
      · exact .inl rfl
end Go.Proofs.YtccngnjkehibiaaGreatDoor
