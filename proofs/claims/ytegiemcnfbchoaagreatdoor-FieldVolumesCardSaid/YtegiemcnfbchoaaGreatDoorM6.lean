import Derived.Test.YtegiemcnfbchoaaGreatDoorE2
import Derived.Test.YtegiemcnfbchoaaGreatDoorShelfB
/- Level lines Plain A region that draws its order, with a condition on the world that may end with The walk over mesh.within. The walk over slices.SortFunc at numbers, where there are at most twelve. -/
set_option maxHeartbeats 4000000
set_option maxRecDepth 100000
namespace Go.Proofs.YtegiemcnfbchoaaGreatDoor
open Go.RowKit Go.Lib
abbrev Seg := Int × PtQ × PtQ
def cellG (s : Seg) : List Value := [.int .i64 s.1, .string (RS s.2.1.1), .string (RS s.2.1.2), .string (RS s.2.2.1), .string (RS s.2.2.2)]
def cellsG (l : List Seg) : List Value := l.flatMap cellG
theorem cellsG_snoc (l : List Seg) (s : Seg) : cellsG (l ++ [s]) = cellsG l ++ [.int .i64 s.1, .string (RS s.2.1.1), .string (RS s.2.1.2), .string (RS s.2.2.1), .string (RS s.2.2.2)] := by simp [cellsG, cellG]
def nbI (T : List Tri) (s : Edge) : Int := match (ownL T).find? (fun x => x.1 == revE s) with | some x => x.2 | none => -1
theorem ownL_ix {T : List Tri} {x : Edge × Int} (h : x ∈ ownL T) : ∃ j : Nat, x.2 = (j : Int) /\ j < T.length := by
 unfold ownL at h;obtain ⟨y, hy, hx⟩ := List.mem_flatMap.1 h;obtain ⟨s, _, rfl⟩ := List.mem_map.1 hx;obtain ⟨_, h2, _⟩ := List.mem_zipIdx hy;exact ⟨y.2, rfl, by omega⟩
theorem nbI_lt {T : List Tri} {s : Edge} (h : 0 <= nbI T s) : ∃ j : Nat, nbI T s = (j : Int) /\ j < T.length := by
 unfold nbI at h ⊢;cases e : (ownL T).find? (fun x => x.1 == revE s) with
 | none => rw [e] at h; exact absurd h (by decide)
 | some x => exact ownL_ix (List.mem_of_find?_eq_some e)
theorem nbI_some {T : List Tri} {s : Edge} (h : revE s ∈ (ownL T).map (·.1)) : (revE s, nbI T s) ∈ ownL T := by
 unfold nbI;cases e : (ownL T).find? (fun x => x.1 == revE s) with
 | none =>
   obtain ⟨x, hx, hx2⟩ := List.mem_map.1 h;have := List.find?_eq_none.1 e x hx;simp [hx2] at this
 | some x =>
   have h1 := List.mem_of_find?_eq_some e;have h2 := List.find?_some e;simp at h2;rw [<- h2]; exact h1
theorem nbI_none {T : List Tri} {s : Edge} (h : revE s ∉ (ownL T).map (·.1)) : nbI T s = -1 := by
 unfold nbI;cases e : (ownL T).find? (fun x => x.1 == revE s) with
 | none => rfl
 | some x =>
   have h1 := List.mem_of_find?_eq_some e;have h2 := List.find?_some e;simp at h2;exact absurd (List.mem_map.2 ⟨x, h1, h2⟩) h
def corP (P : List PtQ) (F : List Rat) (z : Int) : Cor := (ptI P z, hI F z)
def partT (P : List PtQ) (F : List Rat) (z : Rat) (tr : Tri) : List Cor := cutL (corP P F tr.1) (corP P F tr.2.1) (corP P F tr.2.2) z
def sideT (P : List PtQ) (tr : Tri) (a b : PtQ) : Int := sideL (ptI P tr.1) (ptI P tr.2.1) (ptI P tr.2.2) a b
def nbT (T : List Tri) (tr : Tri) (k : Int) : Int := nbI T (if k = 0 then sideK tr 0 else if k = 1 then sideK tr 1 else sideK tr 2)
def triI (T : List Tri) (j : Int) : Tri := T[j.toNat]?.getD (0, 0, 0)
theorem triI_nat (T : List Tri) (m : Nat) (h : m < T.length) : triI T (m : Int) = T[m] := by
 unfold triI; rw [Int.toNat_natCast, List.getElem?_eq_getElem h]; rfl
def corI (l : List Cor) (i : Nat) : Cor := l[i]?.getD ((0, 0), 0)
theorem corI_nat (l : List Cor) (i : Nat) (h : i < l.length) : corI l i = l[i] := by
 unfold corI; rw [List.getElem?_eq_getElem h]; rfl
def keepB (P : List PtQ) (T : List Tri) (F : List Rat) (z : Rat) (tr : Tri) (a b : Cor) : Bool :=
 decide (a.2 = z) && decide (b.2 = z) && (decide (sideT P tr a.1 b.1 < 0) || (decide (0 <= nbT T tr (sideT P tr a.1 b.1)) && (partT P F z (triI T (nbT T tr (sideT P tr a.1 b.1)))).isEmpty))
def segA (P : List PtQ) (T : List Tri) (F : List Rat) (z : Rat) (t : Nat) (tr : Tri) (l : List Cor) (i : Nat) : List Seg :=
 if keepB P T F z tr (corI l i) (corI l ((i + 1) % l.length)) then [((t : Int), (corI l i).1, (corI l ((i + 1) % l.length)).1)] else []
def segTo (P : List PtQ) (T : List Tri) (F : List Rat) (z : Rat) (t : Nat) (tr : Tri) (l : List Cor) : Nat -> List Seg | 0 => [] | i + 1 => segTo P T F z t tr l i ++ segA P T F z t tr l i
def levTo (P : List PtQ) (T : List Tri) (F : List Rat) (z : Rat) : Nat -> List Seg
 | 0 => []
 | t + 1 => levTo P T F z t ++ segTo P T F z t (triI T t) (partT P F z (triI T t)) (partT P F z (triI T t)).length
def levelL (P : List PtQ) (T : List Tri) (F : List Rat) (z : Rat) : List Seg := levTo P T F z T.length
theorem cutL_len (c0 c1 c2 : Cor) (z : Rat) : (cutL c0 c1 c2 z).length <= 6 := by
 unfold cutL;split
 ·exact cutTo_len c0 c1 c2 z 3
 ·simp
theorem cross_Sz {a b : Cor} {z : Rat} {k m : Nat} (ha : SzP k a.1 /\ Sz k a.2) (hb : SzP k b.1 /\ Sz k b.2) (hz : Sz m z) : SzP (6 * k + 3 * m + 6) (crossK a b z).1 := by
 have d1 := ha.2.sub hz;have d2 := hb.2.sub hz;have dd := d1.div (d1.sub d2) (by omega);unfold crossK towQ;exact ⟨(ha.1.1.add (dd.mul (hb.1.1.sub ha.1.1))).mono (by omega), (ha.1.2.add (dd.mul (hb.1.2.sub ha.1.2))).mono (by omega)⟩
theorem cutS_Sz {a b : Cor} {z : Rat} {k m : Nat} (ha : SzP k a.1 /\ Sz k a.2) (hb : SzP k b.1 /\ Sz k b.2) (hz : Sz m z) : ∀ c ∈ cutS a b z, SzP (6 * k + 3 * m + 6) c.1 := by
 intro c hc;unfold cutS at hc;rcases List.mem_append.1 hc with h | h
 ·split at h
  ·simp at h; subst h
   exact ⟨ha.1.1.mono (by omega), ha.1.2.mono (by omega)⟩
  ·simp at h
 ·split at h
  ·simp at h; subst h
   exact cross_Sz ha hb hz
  ·simp at h
theorem cutTo_Sz {c0 c1 c2 : Cor} {z : Rat} {k m : Nat} (h0 : SzP k c0.1 /\ Sz k c0.2) (h1 : SzP k c1.1 /\ Sz k c1.2) (h2 : SzP k c2.1 /\ Sz k c2.2) (hz : Sz m z) : ∀ (i : Nat), ∀ c ∈ cutTo c0 c1 c2 z i, SzP (6 * k + 3 * m + 6) c.1
 | 0 => fun c hc => by simp [cutTo] at hc
 | i + 1 => fun c hc => by
   unfold cutTo at hc;rcases List.mem_append.1 hc with h | h
   ·exact cutTo_Sz h0 h1 h2 hz i c h
   ·refine cutS_Sz ?_ ?_ hz c h
    ·unfold corA; split <;> assumption
    ·unfold corB; split <;> assumption
theorem cutL_Sz {c0 c1 c2 : Cor} {z : Rat} {k m : Nat} (h0 : SzP k c0.1 /\ Sz k c0.2) (h1 : SzP k c1.1 /\ Sz k c1.2) (h2 : SzP k c2.1 /\ Sz k c2.2) (hz : Sz m z) (c : Cor) (hc : c ∈ cutL c0 c1 c2 z) : SzP (6 * k + 3 * m + 6) c.1 := by
 unfold cutL at hc;split at hc
 ·exact cutTo_Sz h0 h1 h2 hz 3 c hc
 ·simp at hc
theorem sideL_cases (c0 c1 c2 a b : PtQ) : sideL c0 c1 c2 a b = -1 \/ sideL c0 c1 c2 a b = 0 \/ sideL c0 c1 c2 a b = 1 \/ sideL c0 c1 c2 a b = 2 := by
 unfold sideL;split
 ·exact .inr (.inl rfl)
 ·split
  ·exact .inr (.inr (.inl rfl))
  ·split
   ·exact .inr (.inr (.inr rfl))
   ·exact .inl rfl
def fanI (c : List Cor) (z : Rat) : Nat -> Rat
 | 0 => 0
 | n + 1 => fanI c z n + areaQ (corI c 0).1 (corI c (n + 1)).1 (corI c (n + 2)).1 * (1 / 2) * (((corI c 0).2 + (corI c (n + 1)).2 + (corI c (n + 2)).2) * (1 / 3) - z)
def integ (c : List Cor) (z : Rat) : Rat := fanI c z (c.length - 2)
def volTo (P : List PtQ) (T : List Tri) (F : List Rat) (z : Rat) : Nat -> Rat
 | 0 => 0
 | t + 1 => volTo P T F z t + integ (partT P F z (triI T t)) z
def ptA (p : List PtQ) (i : Nat) : PtQ := p[i]?.getD (0, 0)
def lfanA (p : List PtQ) : Nat -> Rat | 0 => 0 | n + 1 => lfanA p n + areaQ (ptA p 0) (ptA p (n + 1)) (ptA p (n + 2))
def lfanX (p : List PtQ) : Nat -> Rat | 0 => 0 | n + 1 => lfanX p n + areaQ (ptA p 0) (ptA p (n + 1)) (ptA p (n + 2)) * ((ptA p 0).1 + ((ptA p (n + 1)).1 + (ptA p (n + 2)).1))
def lfanY (p : List PtQ) : Nat -> Rat | 0 => 0 | n + 1 => lfanY p n + areaQ (ptA p 0) (ptA p (n + 1)) (ptA p (n + 2)) * ((ptA p 0).2 + ((ptA p (n + 1)).2 + (ptA p (n + 2)).2))
def lareaP (p : List PtQ) : Rat := lfanA p (p.length - 2)
def lcent (p : List PtQ) : PtQ := (lfanX p (p.length - 2) / (3 * lareaP p), lfanY p (p.length - 2) / (3 * lareaP p))
def begL (p : List PtQ) (n : Nat) : List PtQ := p.drop n ++ p.take n
theorem cent_plane (S X Y α sx sy z : Rat) (hS : S ≠ 0) : S * (α + sx * (X / (3 * S)) + sy * (Y / (3 * S)) - z) * (1 / 2) = (S * α * 3 + sx * X + sy * Y - S * z * 3) * (1 / 6) := by
 have h3 : (3 * S) ≠ 0 := by intro e; apply hS; grind
 rw [Rat.div_def, Rat.div_def];have hi := Rat.mul_inv_cancel (3 * S) h3;generalize (3 * S)⁻¹ = i at *;grind
theorem vol_piece (c : List Cor) (z α sx sy : Rat) (hz : ∀ a ∈ c, a.2 = α + sx * a.1.1 + sy * a.1.2) (hl : c.length = 3 \/ c.length = 4) (n : Nat) (hn : n < c.length) (hA : lareaP (c.map (·.1)) ≠ 0) :
 lareaP (begL (c.map (·.1)) n) ≠ 0 /\ lareaP (begL (c.map (·.1)) n) * (α + sx * (lcent (begL (c.map (·.1)) n)).1 + sy * (lcent (begL (c.map (·.1)) n)).2 - z) * (1 / 2) = integ c z := by
 have key : lareaP (begL (c.map (·.1)) n) = lareaP (c.map (·.1)) /\ (lareaP (begL (c.map (·.1)) n) * α * 3 + sx * lfanX (begL (c.map (·.1)) n) ((begL (c.map (·.1)) n).length - 2) + sy * lfanY (begL (c.map (·.1)) n) ((begL (c.map (·.1)) n).length - 2) - lareaP (begL (c.map (·.1)) n) * z * 3) * (1 / 6) = integ c z := by
  rcases hl with hl | hl
  ·match c, hl with
   | [((ax, ay), az), ((bx, bY), bz), ((dx, dy), dz)], _ =>
     have h0 := hz _ (List.mem_cons_self);have h1 := hz _ (List.mem_cons_of_mem _ List.mem_cons_self);have h2 := hz _ (List.mem_cons_of_mem _ (List.mem_cons_of_mem _ List.mem_cons_self));dsimp only at h0 h1 h2;subst h0 h1 h2;clear hz hA;simp only [List.length_cons, List.length_nil] at hn;rcases (by omega : n = 0 \/ n = 1 \/ n = 2) with rfl | rfl | rfl
     all_goals
      simp only [begL, lareaP, integ, fanI, lfanA, lfanX, lfanY, ptA, corI, areaQ, List.map_cons, List.map_nil, List.drop_zero, List.take_zero, List.drop_succ_cons, List.take_succ_cons, List.append_nil, List.nil_append, List.cons_append, List.length_cons, List.length_nil, List.getElem?_cons_zero, List.getElem?_cons_succ, Option.getD_some, Nat.reduceAdd, Nat.reduceSub, Nat.zero_add];constructor <;> grind
  ·match c, hl with
   | [((ax, ay), az), ((bx, bY), bz), ((dx, dy), dz), ((ex, ey), ez)], _ =>
     have h0 := hz _ (List.mem_cons_self);have h1 := hz _ (List.mem_cons_of_mem _ List.mem_cons_self);have h2 := hz _ (List.mem_cons_of_mem _ (List.mem_cons_of_mem _ List.mem_cons_self));have h3 := hz _ (List.mem_cons_of_mem _ (List.mem_cons_of_mem _ (List.mem_cons_of_mem _ List.mem_cons_self)));dsimp only at h0 h1 h2 h3;subst h0 h1 h2 h3;clear hz hA;simp only [List.length_cons, List.length_nil] at hn;rcases (by omega : n = 0 \/ n = 1 \/ n = 2 \/ n = 3) with rfl | rfl | rfl | rfl
     all_goals
      simp only [begL, lareaP, integ, fanI, lfanA, lfanX, lfanY, ptA, corI, areaQ, List.map_cons, List.map_nil, List.drop_zero, List.take_zero, List.drop_succ_cons, List.take_succ_cons, List.append_nil, List.nil_append, List.cons_append, List.length_cons, List.length_nil, List.getElem?_cons_zero, List.getElem?_cons_succ, Option.getD_some, Nat.reduceAdd, Nat.reduceSub, Nat.zero_add];constructor <;> grind
 refine ⟨by rw [key.1]; exact hA, ?_⟩;rw [<- key.2];exact cent_plane _ _ _ _ _ _ _ (by rw [key.1]; exact hA)
theorem cross_share {x y : Rat} (h : x.num.sign * y.num.sign < 0) : 0 < x / (x - y) /\ x / (x - y) < 1 /\ x / (x - y) * (x - y) = x := by
 have key : ∀ q : Rat, (q.num.sign = 1 -> 0 < q) /\ (q.num.sign = -1 -> q < 0) := fun q => ⟨fun e => num_pos_iff.1 (Int.sign_eq_one_iff_pos.1 e), fun e => num_lt_zero_iff.1 (Int.sign_eq_neg_one_iff_neg.1 e)⟩;have hne : x - y ≠ 0 := by
  rcases sign3 x with hx | hx | hx <;> rcases sign3 y with hy | hy | hy <;> rw [hx, hy] at h <;> first | (exact absurd h (by decide)) | skip
  ·have := (key x).2 hx; have := (key y).1 hy; grind
  ·have := (key x).1 hx; have := (key y).2 hy; grind
 have hm : x / (x - y) * (x - y) = x := by
  rw [Rat.div_def, Rat.mul_assoc, Rat.inv_mul_cancel _ hne, Rat.mul_one]
 generalize x / (x - y) = k at *;rcases sign3 x with hx | hx | hx <;> rcases sign3 y with hy | hy | hy <;> rw [hx, hy] at h <;> first | (exact absurd h (by decide)) | skip
 ·have h1 := (key x).2 hx; have h2 := (key y).1 hy
  refine ⟨?_, ?_, hm⟩
  ·refine Rat.not_le.1 fun h3 => ?_
   have := Rat.mul_nonneg (show (0 : Rat) <= -k by grind) (show (0 : Rat) <= -(x - y) by grind);grind
  ·refine Rat.not_le.1 fun h3 => ?_
   have := Rat.mul_nonneg (show (0 : Rat) <= k - 1 by grind) (show (0 : Rat) <= -(x - y) by grind);grind
 ·have h1 := (key x).1 hx; have h2 := (key y).2 hy
  refine ⟨?_, ?_, hm⟩
  ·refine Rat.not_le.1 fun h3 => ?_
   have := Rat.mul_nonneg (show (0 : Rat) <= -k by grind) (show (0 : Rat) <= x - y by grind);grind
  ·refine Rat.not_le.1 fun h3 => ?_
   have := Rat.mul_nonneg (show (0 : Rat) <= k - 1 by grind) (show (0 : Rat) <= x - y by grind);grind
theorem cutTo_plane (c0 c1 c2 : Cor) (z α sx sy : Rat) (h0 : c0.2 = α + sx * c0.1.1 + sy * c0.1.2) (h1 : c1.2 = α + sx * c1.1.1 + sy * c1.1.2) (h2 : c2.2 = α + sx * c2.1.1 + sy * c2.1.2) : ∀ a ∈ cutL c0 c1 c2 z, a.2 = α + sx * a.1.1 + sy * a.1.2 := by
 have step : ∀ a b : Cor, a.2 = α + sx * a.1.1 + sy * a.1.2 -> b.2 = α + sx * b.1.1 + sy * b.1.2 -> ∀ x ∈ cutS a b z, x.2 = α + sx * x.1.1 + sy * x.1.2 := fun a b ha hb x hx => by
  unfold cutS at hx;rcases List.mem_append.1 hx with hx | hx
  ·split at hx
   ·rw [List.mem_singleton.1 hx]; exact ha
   ·cases hx
  ·split at hx
   ·rename_i hs
    rw [List.mem_singleton.1 hx];obtain ⟨_, _, hk⟩ := cross_share hs;unfold crossK towQ;generalize (a.2 - z) / ((a.2 - z) - (b.2 - z)) = k at *;dsimp only;grind
   ·cases hx
 intro a ha;unfold cutL at ha;split at ha
 ·unfold cutTo cutTo cutTo cutTo corA corB at ha
  simp only [List.nil_append, List.mem_append] at ha;rcases ha with (ha | ha) | ha
  ·exact step _ _ h0 h1 _ ha
  ·exact step _ _ h1 h2 _ ha
  ·exact step _ _ h2 h0 _ ha
 ·cases ha
theorem part_shape (c0 c1 c2 : Cor) (z : Rat) (hA : 0 < areaQ c0.1 c1.1 c2.1) (hne : cutL c0 c1 c2 z ≠ []) : ((cutL c0 c1 c2 z).length = 3 \/ (cutL c0 c1 c2 z).length = 4) /\ 0 < lareaP ((cutL c0 c1 c2 z).map (·.1)) := by
 obtain ⟨⟨ax, ay⟩, az⟩ := c0;obtain ⟨⟨bx, bY⟩, bz⟩ := c1;obtain ⟨⟨cx, cy⟩, cz⟩ := c2;have k01 := @cross_share (az - z) (bz - z);have k12 := @cross_share (bz - z) (cz - z);have k20 := @cross_share (cz - z) (az - z);simp only [cutL, someTo, cutTo, corA, corB, cutS, crossK, towQ] at hne ⊢;have h0 := sign3 (az - z);have h1 := sign3 (bz - z);have h2 := sign3 (cz - z);generalize (az - z) / ((az - z) - (bz - z)) = r01 at *;generalize (bz - z) / ((bz - z) - (cz - z)) = r12 at *;generalize (cz - z) / ((cz - z) - (az - z)) = r20 at *;generalize (az - z).num.sign = s0 at *;generalize (bz - z).num.sign = s1 at *;generalize (cz - z).num.sign = s2 at *;unfold areaQ at hA;dsimp only at hA;generalize hAA : (bx - ax) * (cy - ay) - (bY - ay) * (cx - ax) = A at hA;have mp : ∀ x y : Rat, 0 < x -> 0 < y -> 0 < x * y := fun x y => Rat.mul_pos;have pp : ∀ S r q : Rat, 0 < r -> r < 1 -> 0 < q -> q < 1 -> (S = A \/ S = A * r \/ S = A * (1 - r) \/ S = A * (r * (1 - q)) \/ S = A * (1 - (1 - r) * q)) -> 0 < S := fun S r q r0 r1 q0 q1 h => by
  have m1 := mp A r hA r0;have m2 := mp A (1 - r) hA (by grind);have m3 := mp A (r * (1 - q)) hA (mp _ _ r0 (by grind));have m4 := mp (1 - r) (1 - q) (by grind) (by grind);have m5 := mp A (1 - (1 - r) * q) hA (by grind);rcases h with h | h | h | h | h <;> rw [h] <;> assumption
 rcases h0 with rfl | rfl | rfl <;> rcases h1 with rfl | rfl | rfl <;> rcases h2 with rfl | rfl | rfl <;>
  simp only [Int.reduceLE, Int.reduceLT, Int.reduceMul, Int.reduceNeg, decide_true, decide_false, Bool.or_true, Bool.or_false, if_false, if_pos, Bool.false_eq_true, List.nil_append, List.cons_append, List.append_nil, ne_eq, not_true, forall_const] at hne k01 k12 k20 ⊢ <;>
  (refine ⟨by simp, ?_⟩
   simp only [lareaP, lfanA, ptA, areaQ, List.map_cons, List.map_nil, List.length_cons, List.length_nil, List.getElem?_cons_zero, List.getElem?_cons_succ, Option.getD_some, Nat.reduceAdd, Nat.reduceSub, Nat.zero_add];first
   | exact pp _ r01 r20 k01.1 k01.2.1 k20.1 k20.2.1 (.inr (.inr (.inr (.inl (by grind)))))
   | exact pp _ r12 r01 k12.1 k12.2.1 k01.1 k01.2.1 (.inr (.inr (.inr (.inl (by grind)))))
   | exact pp _ r20 r12 k20.1 k20.2.1 k12.1 k12.2.1 (.inr (.inr (.inr (.inl (by grind)))))
   | exact pp _ r12 r20 k12.1 k12.2.1 k20.1 k20.2.1 (.inr (.inr (.inr (.inr (by grind)))))
   | exact pp _ r20 r01 k20.1 k20.2.1 k01.1 k01.2.1 (.inr (.inr (.inr (.inr (by grind)))))
   | exact pp _ r01 r12 k01.1 k01.2.1 k12.1 k12.2.1 (.inr (.inr (.inr (.inr (by grind)))))
   | exact pp _ r01 (1 / 2) k01.1 k01.2.1 (by decide +kernel) (by decide +kernel) (.inr (.inl (by grind)))
   | exact pp _ r01 (1 / 2) k01.1 k01.2.1 (by decide +kernel) (by decide +kernel) (.inr (.inr (.inl (by grind))))
   | exact pp _ r12 (1 / 2) k12.1 k12.2.1 (by decide +kernel) (by decide +kernel) (.inr (.inl (by grind)))
   | exact pp _ r12 (1 / 2) k12.1 k12.2.1 (by decide +kernel) (by decide +kernel) (.inr (.inr (.inl (by grind))))
   | exact pp _ r20 (1 / 2) k20.1 k20.2.1 (by decide +kernel) (by decide +kernel) (.inr (.inl (by grind)))
   | exact pp _ r20 (1 / 2) k20.1 k20.2.1 (by decide +kernel) (by decide +kernel) (.inr (.inr (.inl (by grind))))
   | exact pp _ (1 / 2) (1 / 2) (by decide +kernel) (by decide +kernel) (by decide +kernel) (by decide +kernel) (.inl (by grind)))
end Go.Proofs.YtegiemcnfbchoaaGreatDoor
namespace Go.Proofs.YtegiemcnfbchoaaGreatDoor
open Go
section
variable {P : Program} {ops : Array Oper} {Q : Exit -> Act -> World -> Prop} {md : Region.Mode} {S : Array Bool -> World -> Prop}
def AnyL (P : Program) (md : Region.Mode) (ops : Array Oper) (Q : Exit -> Act -> World -> Prop) (S : Array Bool -> World -> Prop) : Nat -> Array Bool -> Act -> World -> Prop
 | 0, l, a, w => Region.ready md ops l = [] /\ Q .normal a w
 | n + 1, l, a, w => (Region.ready md ops l = [] -> Q .normal a w) /\ ∀ i ∈ Region.ready md ops l, wpOp P ops Q i (fun a' w' => S (l.setIfInBounds i true) w' /\ AnyL P md ops Q S n (l.setIfInBounds i true) a' w') a w
theorem AnyL.any : ∀ (n : Nat) (l : Array Bool) (a : Act) (w : World), AnyL P md ops Q S n l a w -> wpAny P md ops Q n l a w
 | 0, _, _, _, h => h
 | n + 1, _, _, _, h => ⟨h.1, fun i hi => wpOp_mono (fun a' w' h' => AnyL.any n _ a' w' h'.2) (h.2 i hi)⟩
theorem AnyL.region {id : Nat} {a : Act} {w : World} (hm : P.follows .mixedOrders = true)
 (h : AnyL P .any ops Q S ops.size (Array.replicate ops.size false) a w.drew) : (Code.region id ops true).wp P Q a w :=
 wp_region_any hm (AnyL.any _ _ _ _ h)
theorem AnyL.first {i : Nat} {oi : Oper} {v : Value} {C : World -> Prop} {R : Array Bool -> Prop} (hi : ops[i]? = some oi) (hs : Region.noSelect ops = true)
 (hQ : ∀ c a w, Q (.panic c) (a.put oi.dst v) w -> Q (.panic c) a w)
 (hR : ∀ l j, R l -> j ∈ Region.ready md ops l -> l.getD i true = false -> j ≠ i -> R (l.setIfInBounds j true))
 (hC : ∀ l w, R l -> S (l.setIfInBounds i true) w -> C w) (hD : ∀ l w, R l -> S (l.setIfInBounds i true) w -> S l w) :
 ∀ (n : Nat) (l : Array Bool) (a : Act) (w : World),
  (∀ j oj, ops[j]? = some oj -> j ≠ i -> l.getD j true = false -> (∀ e ∈ oj.after, Region.binds md e = true -> e.on ≠ i) -> oi.apart ops oj = true) ->
  R l -> i ∈ Region.ready md ops l -> YieldsIf P ops C oi v a -> C w -> S (l.setIfInBounds i true) w ->
  AnyL P md ops Q S n (l.setIfInBounds i true) (a.put oi.dst v) w -> AnyL P md ops Q S (n + 1) l a w
 | 0, l, a, w, _, _, hr, hy, hc, hS, H => by
   refine ⟨fun h => (by rw [h] at hr; cases hr), fun j hj => ?_⟩;by_cases e : j = i
   ·subst e; exact hy.wpOp hi hc ⟨hS, H⟩
   ·have := ready_mono hj e
    rw [H.1] at this;cases this
 | n + 1, l, a, w, hf, hRl, hr, hy, hc, hS, H => by
   refine ⟨fun h => (by rw [h] at hr; cases hr), fun j hj => ?_⟩;by_cases e : j = i
   ·subst e; exact hy.wpOp hi hc ⟨hS, H⟩
   ·have hun := (mem_ready.1 hr).1
    obtain ⟨hju, oj, hoj, hall⟩ := mem_ready.1 hj;have hno : ∀ d ∈ oj.after, Region.binds md d = true -> d.on ≠ i := fun d hd hb heq => by
     have h1 := hall d hd hb;rw [heq] at h1;rw [Array.getD_eq_getD_getElem?] at h1 hun;cases hg : l[i]? with
     | none => rw [hg] at h1; cases h1
     | some b => rw [hg] at h1 hun; simp at h1 hun; rw [h1] at hun; cases hun
    have h2 := wpOp_putIf hoj (hf j oj hoj e hju hno) (fun cs b => Region.noSelect_spec hs i oi cs b hi) (fun cs b => Region.noSelect_spec hs j oj cs b hoj) hQ hy (H.2 j (ready_mono hj e));have hRj := hR l j hRl hj hun e;have hcomm : (l.setIfInBounds i true).setIfInBounds j true = (l.setIfInBounds j true).setIfInBounds i true := Array.setIfInBounds_comm _ _ (Ne.symm e);refine wpOp_mono (fun a' w' h3 => ?_) h2;obtain ⟨h4, h5, h6⟩ := h3;rw [hcomm] at h5 h6;refine ⟨hD _ _ hRj h5, AnyL.first hi hs hQ hR hC hD n _ a' w' (fun m om hom hmi hmu hmn => hf m om hom hmi ?_ hmn) hRj (ready_mono hr (Ne.symm e)) h4 (hC _ _ hRj h5) h5 h6⟩;by_cases hjm : j = m
    ·subst hjm; exact hju
    ·rw [getD_set_ne true hjm] at hmu; exact hmu
def Till (k : Nat) (A B : World -> Prop) (l : Array Bool) (w : World) : Prop := A w /\ (l.getD k true = false -> B w)
theorem AnyL.take {k i : Nat} {A B : World -> Prop} {oi : Oper} {v : Value} {n : Nat} {l : Array Bool} {a : Act} {w : World} (hi : ops[i]? = some oi) (hs : Region.noSelect ops = true)
 (hf : Region.free md ops l i = true) (hr : (Region.ready md ops l).contains i = true) (hki : i ≠ k) (hQ : ∀ c a w, Q (.panic c) (a.put oi.dst v) w -> Q (.panic c) a w)
 (hy : YieldsIf P ops A oi v a) (hS : Till k A B l w) (h : AnyL P md ops Q (Till k A B) n (l.setIfInBounds i true) (a.put oi.dst v) w) : AnyL P md ops Q (Till k A B) (n + 1) l a w := by
 refine AnyL.first (R := fun _ => True) (C := A) hi hs hQ (fun _ _ _ _ _ _ => trivial) (fun _ _ _ h => h.1) (fun l w _ h => ⟨h.1, fun hk => h.2 (by rw [getD_set_ne true hki]; exact hk)⟩) n l a w (Region.free_spec hi hf) trivial (by simpa using hr) hy hS.1 ⟨hS.1, fun hk => hS.2 (by rw [getD_set_ne true hki] at hk; exact hk)⟩ h
theorem AnyL.take2 {k i : Nat} {A B : World -> Prop} {oi ok : Oper} {v : Value} {n : Nat} {l : Array Bool} {a : Act} {w : World} (hi : ops[i]? = some oi) (hs : Region.noSelect ops = true)
 (hf : Region.free md ops l i = true) (hr : (Region.ready md ops l).contains i = true) (hki : i ≠ k) (hk : ops[k]? = some ok) (hw : (ok.after.any fun e => Region.binds md e && e.on == i) = true) (hkl : l.getD k true = false)
 (hQ : ∀ c a w, Q (.panic c) (a.put oi.dst v) w -> Q (.panic c) a w)
 (hy : YieldsIf P ops (fun w => A w /\ B w) oi v a) (hS : Till k A B l w) (h : AnyL P md ops Q (Till k A B) n (l.setIfInBounds i true) (a.put oi.dst v) w) : AnyL P md ops Q (Till k A B) (n + 1) l a w := by
 obtain ⟨e, he, hb⟩ := Array.any_eq_true'.1 hw;simp only [Bool.and_eq_true, beq_iff_eq] at hb;refine AnyL.first (R := fun l => l.getD k true = false) (C := fun w => A w /\ B w) hi hs hQ (fun l j hR hj hun hji => ?_) (fun l w hR h => ⟨h.1, h.2 (by rw [getD_set_ne true hki]; exact hR)⟩)
  (fun l w _ h => ⟨h.1, fun hk => h.2 (by rw [getD_set_ne true hki]; exact hk)⟩) n l a w (Region.free_spec hi hf) hkl (by simpa using hr) hy ⟨hS.1, hS.2 hkl⟩ ⟨hS.1, fun hk => hS.2 (by rw [getD_set_ne true hki] at hk; exact hk)⟩ h
 by_cases hjk : j = k
 ·subst hjk
  obtain ⟨_, oj, hoj, hall⟩ := mem_ready.1 hj;obtain rfl : oj = ok := Option.some.inj (hoj.symm.trans hk);have h1 := hall e he hb.1;rw [hb.2] at h1;rw [Array.getD_eq_getD_getElem?] at h1 hun;cases hg : l[i]? with
  | none => rw [hg] at h1; cases h1
  | some b => rw [hg] at h1 hun; simp at h1 hun; rw [h1] at hun; cases hun
 ·rw [getD_set_ne true hjk]; exact hR
theorem AnyL.one {i : Nat} {o : Oper} {n : Nat} {l : Array Bool} {a : Act} {w : World} (hr : Region.ready md ops l = [i]) (ho : ops[i]? = some o)
 (h : ∀ K' : Act -> World -> Prop, Shut (∀ a w, S (l.setIfInBounds i true) w -> (S (l.setIfInBounds i true) w -> AnyL P md ops Q S n (l.setIfInBounds i true) a w) -> K' a w) -> if Region.wanted o (yielded ops a.tmps) = true then Oper.wp P o a w K' Q else K' (a.put o.dst undef) w) :
 AnyL P md ops Q S (n + 1) l a w := by
 refine ⟨fun h0 => (by rw [h0] at hr; cases hr), fun j hj => ?_⟩;rw [hr] at hj;obtain rfl : j = i := by simpa using hj
 exact wpOp_step ho (fun K' hK => h K' (fun a w hS hW => hK a w ⟨hS, hW hS⟩))
theorem AnyL.done {l : Array Bool} {a : Act} {w : World} (hr : Region.ready md ops l = []) (h : Q .normal a w) : ∀ n, AnyL P md ops Q S n l a w
 | 0 => ⟨hr, h⟩
 | _ + 1 => ⟨fun _ => h, by rw [hr]; simp⟩
theorem zlk (i : Nat) {k : Nat} {A B : World -> Prop} {oi : Oper} {v : Value} {n : Nat} {l l0 : Array Bool} {a : Act} {w : World} (hH : Till k A B l0 w) (h : AnyL P md ops Q (Till k A B) n (l.setIfInBounds i true) (a.put oi.dst v) w)
 (hi : ops[i]? = some oi := by rfl) (hs : Region.noSelect ops = true := by kernel_rfl) (hf : Region.free md ops l i = true := by kernel_rfl) (hr : (Region.ready md ops l).contains i = true := by kernel_rfl) (hki : i ≠ k := by decide) (hl : l0.getD k true = false := by rfl)
 (hQ : ∀ c a w, Q (.panic c) (a.put oi.dst v) w -> Q (.panic c) a w := by exact fun _ _ _ h => h)
 (hy : YieldsIf P ops A oi v a := by exact Or.inl ⟨by rfl, by intro w h; (try dsimp only at h); first | (go_simp; done) | (go_simp; with_reducible rfl)⟩) : AnyL P md ops Q (Till k A B) (n + 1) l a w :=
 AnyL.take hi hs hf hr hki hQ hy ⟨hH.1, fun _ => hH.2 hl⟩ h
theorem zhk {S : World -> Prop} (i : Nat) {oi : Oper} {v : Value} {n : Nat} {l : Array Bool} {a : Act} {w : World} (h : wpAnyH P md ops Q S n (l.setIfInBounds i true) (a.put oi.dst v) w)
 (hi : ops[i]? = some oi := by rfl) (hs : Region.noSelect ops = true := by kernel_rfl) (hf : Region.free md ops l i = true := by kernel_rfl) (hr : (Region.ready md ops l).contains i = true := by kernel_rfl)
 (hQ : ∀ c a w, Q (.panic c) (a.put oi.dst v) w -> Q (.panic c) a w := by exact fun _ _ _ h => h)
 (hy : YieldsIf P ops S oi v a := by exact Or.inl ⟨by rfl, by intro w h; (try dsimp only at h); first | (go_simp; done) | (go_simp; with_reducible rfl)⟩) (hS : S w := by assumption) : wpAnyH P md ops Q S (n + 1) l a w :=
 wpAnyH_take hi hs hf hr hQ hy hS h
end
end Go.Proofs.YtegiemcnfbchoaaGreatDoor
namespace Go.Proofs.YtegiemcnfbchoaaGreatDoor
open Go.RowKit Go.Lib
def wStep (a b : PtQ) (st : Option (Rat × Rat)) (s : PtQ × PtQ) : Option (Rat × Rat) :=
 match st with
 | none => none
 | some l =>
   if areaQ s.1 s.2 a = areaQ s.1 s.2 b then (if areaQ s.1 s.2 a < 0 then none else some l)
   else if areaQ s.1 s.2 a < areaQ s.1 s.2 b then some (maxQ l.1 (areaQ s.1 s.2 a / (areaQ s.1 s.2 a - areaQ s.1 s.2 b)), l.2)
   else some (l.1, minQ l.2 (areaQ s.1 s.2 a / (areaQ s.1 s.2 a - areaQ s.1 s.2 b)))
def sidesW (c0 c1 c2 : PtQ) : List (PtQ × PtQ) := [(c0, c1), (c1, c2), (c2, c0)]
def withinN (c0 c1 c2 a b : PtQ) (n : Nat) : Option (Rat × Rat) := ((sidesW c0 c1 c2).take n).foldl (wStep a b) (some (0, 1))
def withinF (c0 c1 c2 a b : PtQ) : Option (Rat × Rat) := (withinN c0 c1 c2 a b 3).bind fun l => if l.1 < l.2 then some l else none
theorem withinN_step (c0 c1 c2 a b : PtQ) (i : Nat) (h : i < 3) : withinN c0 c1 c2 a b (i + 1) = wStep a b (withinN c0 c1 c2 a b i) ((sidesW c0 c1 c2)[i]'h) := by
 unfold withinN;rw [List.take_succ_eq_append_getElem (by exact h), List.foldl_append];rfl
theorem withinN_none (c0 c1 c2 a b : PtQ) (i : Nat) (h : i <= 3) (hn : withinN c0 c1 c2 a b i = none) : withinF c0 c1 c2 a b = none := by
 have key : ∀ n, n <= 3 -> i <= n -> withinN c0 c1 c2 a b n = none := by
  intro n
  induction n with
  | zero => intro _ h0; obtain rfl : i = 0 := by omega
            exact hn
  | succ n ih =>
    intro h3 h0;rcases Nat.lt_or_ge n i with h4 | h4
    ·obtain rfl : i = n + 1 := by omega
     exact hn
    ·rw [withinN_step _ _ _ _ _ _ (by omega), ih (by omega) h4]; rfl
 unfold withinF;rw [key 3 (by omega) h]; rfl
theorem wStep_eq {a b p q : PtQ} {l : Rat × Rat} (h : areaQ p q a = areaQ p q b) (h0 : ¬ areaQ p q a < 0) : wStep a b (some l) (p, q) = some l := by
 unfold wStep; dsimp only; rw [if_pos h, if_neg h0]
theorem wStep_out {a b p q : PtQ} {l : Rat × Rat} (h : areaQ p q a = areaQ p q b) (h0 : areaQ p q a < 0) : wStep a b (some l) (p, q) = none := by
 unfold wStep; dsimp only; rw [if_pos h, if_pos h0]
theorem wStep_lt {a b p q : PtQ} {l : Rat × Rat} (h : areaQ p q a < areaQ p q b) : wStep a b (some l) (p, q) = some (maxQ l.1 (areaQ p q a / (areaQ p q a - areaQ p q b)), l.2) := by
 have hne : ¬ areaQ p q a = areaQ p q b := fun e => by rw [e] at h; exact Rat.lt_irrefl h
 unfold wStep; dsimp only; rw [if_neg hne, if_pos h]
theorem wStep_gt {a b p q : PtQ} {l : Rat × Rat} (h : areaQ p q b < areaQ p q a) : wStep a b (some l) (p, q) = some (l.1, minQ l.2 (areaQ p q a / (areaQ p q a - areaQ p q b))) := by
 have hne : ¬ areaQ p q a = areaQ p q b := fun e => by rw [e] at h; exact Rat.lt_irrefl h
 unfold wStep; dsimp only; rw [if_neg hne, if_neg (Rat.not_lt.2 (Rat.le_of_lt h))]
theorem maxQ_Sz {k : Nat} {p q : Rat} (hp : Sz k p) (hq : Sz k q) : Sz k (maxQ p q) := by unfold maxQ; split <;> assumption
theorem minQ_Sz {k : Nat} {p q : Rat} (hp : Sz k p) (hq : Sz k q) : Sz k (minQ p q) := by unfold minQ; split <;> assumption
theorem ratSign_neg (q : Rat) (h : q < 0) (w : World) :
 Calls Tryz.prog 93 #[.string (RS q)] w (Ret (fun v _ => v = .int .i64 (-1)) w) :=
 (ratSign_any q w).mono fun e w' ⟨v, he, hv, n, hw⟩ => ⟨v, he, by rw [hv, Int.sign_eq_neg_one_of_neg (num_lt_zero_iff.2 h)], hw ▸ below_drewN w n⟩
theorem ratSign_nn (q : Rat) (h : ¬ q < 0) (w : World) :
 Calls Tryz.prog 93 #[.string (RS q)] w (Ret (fun v _ => ∃ z : Int, v = .int .i64 z /\ 0 <= z /\ z <= 1) w) :=
 (ratSign_any q w).mono fun e w' ⟨v, he, hv, n, hw⟩ => ⟨v, he, ⟨_, hv, by rw [sign_if, if_neg h]; split <;> decide⟩, hw ▸ below_drewN w n⟩
theorem ratCmp_lt (p q : Rat) (k : Nat) (hk : 0 < k) (hk2 : k <= 20000) (hp : Sz k p) (hq : Sz k q) (h : p < q) (w : World) (hg : Good w) :
 Calls Tryz.prog 45 #[.string (RS p), .string (RS q)] w (Ret (fun v _ => v = .int .i64 (-1)) w) := by
 have := ratCompare_any p q k hk hk2 hp hq w hg;rwa [show cmpQ p q = -1 by unfold cmpQ; rw [if_pos h]] at this
theorem ratCmp_nlt (p q : Rat) (k : Nat) (hk : 0 < k) (hk2 : k <= 20000) (hp : Sz k p) (hq : Sz k q) (h : ¬ p < q) (w : World) (hg : Good w) :
 Calls Tryz.prog 45 #[.string (RS p), .string (RS q)] w (Ret (fun v _ => ∃ z : Int, v = .int .i64 z /\ 0 <= z /\ z <= 1) w) :=
 (ratCompare_any p q k hk hk2 hp hq w hg).mono fun e w' ⟨v, he, hv, hb⟩ => ⟨v, he, ⟨_, hv, by unfold cmpQ; rw [if_neg h]; split <;> decide⟩, hb⟩
def WithinP (l : Option (Rat × Rat)) (v : Value) : Prop := ∃ x y, v = .tuple #[.string x, .string y, .bool l.isSome] /\ ∀ r, l = some r -> x = RS r.1 /\ y = RS r.2 /\ Sz 200 r.1 /\ Sz 200 r.2 /\ r.1 < r.2
theorem within_gen (c0 c1 c2 a b : PtQ) (m : Nat) (hm0 : 0 < m) (hm7 : m <= 100) (hS : ∀ r, withinF c0 c1 c2 a b = some r -> Sz 200 r.1 /\ Sz 200 r.2) (z0 : SzP m c0) (z1 : SzP m c1) (z2 : SzP m c2) (za : SzP m a) (zb : SzP m b) (w : World) (hg : Good w) :
 Calls Tryz.prog 42 #[.agg #[.string (RS c0.1), .string (RS c0.2), .string (RS c1.1), .string (RS c1.2), .string (RS c2.1), .string (RS c2.2)], .agg #[.string (RS a.1), .string (RS a.2)], .agg #[.string (RS b.1), .string (RS b.2)]] w (Ret (fun r _ => WithinP (withinF c0 c1 c2 a b) r) w) := by
 have HS4 := Lib.hid hS;clear hS;have HCO : Hid (∀ i : Nat, i < 3 -> ∃ (p q : PtQ) (jc : Nat), jc < 3 /\ ((i : Int) + 1) % 3 = (jc : Int) /\ SzP m p /\ SzP m q /\ withinN c0 c1 c2 a b (i + 1) = wStep a b (withinN c0 c1 c2 a b i) (p, q) /\
  ∀ (w' : World) (b t : Nat), BoxN w' b t [.string (RS c0.1), .string (RS c0.2), .string (RS c1.1), .string (RS c1.2), .string (RS c2.1), .string (RS c2.2)] ->
   w'.cell? ⟨b, i * 2, none⟩ = some (.string (RS p.1)) /\ w'.cell? ⟨b, i * 2 + 1, none⟩ = some (.string (RS p.2)) /\ w'.cell? ⟨b, jc * 2, none⟩ = some (.string (RS q.1)) /\ w'.cell? ⟨b, jc * 2 + 1, none⟩ = some (.string (RS q.2))) := fun i hi => by
  have hst := withinN_step c0 c1 c2 a b i hi;rcases (by omega : i = 0 \/ i = 1 \/ i = 2) with rfl | rfl | rfl
  ·exact ⟨c0, c1, 1, by omega, by decide, z0, z1, hst, fun w' b t h => ⟨h.cell 0 rfl, h.cell 1 rfl, h.cell 2 rfl, h.cell 3 rfl⟩⟩
  ·exact ⟨c1, c2, 2, by omega, by decide, z1, z2, hst, fun w' b t h => ⟨h.cell 2 rfl, h.cell 3 rfl, h.cell 4 rfl, h.cell 5 rfl⟩⟩
  ·exact ⟨c2, c0, 0, by omega, by decide, z2, z0, hst, fun w' b t h => ⟨h.cell 4 rfl, h.cell 5 rfl, h.cell 0 rfl, h.cell 1 rfl⟩⟩
 have HNO : Hid (∀ i, i <= 3 -> withinN c0 c1 c2 a b i = none -> withinF c0 c1 c2 a b = none) := fun i h hn => withinN_none c0 c1 c2 a b i h hn;have HFI : Hid (∀ l, withinN c0 c1 c2 a b 3 = some l -> withinF c0 c1 c2 a b = if l.1 < l.2 then some l else none) := fun l h => by unfold withinF; rw [h]; rfl
 have H00 : Hid (withinN c0 c1 c2 a b 0 = some (0, 1)) := rfl;have HZ0 := Lib.hid (RS_zero);have HZ1 := Lib.hid (RS_one);have HZA := Lib.hid za;have HZB := Lib.hid zb;obtain ⟨Nf, hNf⟩ : ∃ Nf : Nat -> Option (Rat × Rat), Nf = withinN c0 c1 c2 a b := ⟨_, rfl⟩;obtain ⟨Ff, hFf⟩ : ∃ Ff : Option (Rat × Rat), Ff = withinF c0 c1 c2 a b := ⟨_, rfl⟩;rw [<- hNf] at HCO HNO HFI H00;rw [<- hFf] at HNO HFI HS4 ⊢;clear z0 z1 z2 za zb hNf hFf;go_enter Tryz.func42, Tryz.ntmps42;go_wp2_with fail;obtain ⟨W, hW⟩ : ∃ W, W = ((w.alloc (.cells #[.string (RS c0.1), .string (RS c0.2), .string (RS c1.1), .string (RS c1.2), .string (RS c2.1), .string (RS c2.2)] 103)).alloc (.cells #[.string (RS a.1), .string (RS a.2)] 33)).alloc (.cells #[.string (RS b.1), .string (RS b.2)] 33) := ⟨_, rfl⟩;have hB : Below w.heap.size w W := by rw [hW]; exact (((Below.refl _ _).alloc (Nat.le_refl _) _).alloc (by simp) _).alloc (by simp; omega) _
 have b5 : BoxN W (w.heap.size + 1 + 1) 33 [.string (RS b.1), .string (RS b.2)] := by rw [hW]; exact BoxN.new _ _ _ _ (by simp)
 have b4 : BoxN W (w.heap.size + 1) 33 [.string (RS a.1), .string (RS a.2)] := by
  rw [hW];have h1 := (BoxN.new (w.alloc (.cells #[.string (RS c0.1), .string (RS c0.2), .string (RS c1.1), .string (RS c1.2), .string (RS c2.1), .string (RS c2.2)] 103)) #[.string (RS a.1), .string (RS a.2)] 33 (w.heap.size + 1) (by simp));exact h1.below (zal _ _) h1.lt
 have b3 : BoxN W w.heap.size 103 [.string (RS c0.1), .string (RS c0.2), .string (RS c1.1), .string (RS c1.2), .string (RS c2.1), .string (RS c2.2)] := by
  rw [hW];have h1 := (BoxN.new w #[.string (RS c0.1), .string (RS c0.2), .string (RS c1.1), .string (RS c1.2), .string (RS c2.1), .string (RS c2.2)] 103 _ rfl);exact h1.below (((Below.refl _ _).alloc (Nat.le_refl _) _).alloc (by simp) _) h1.lt
 rw [<- hW];clear hW;go_loopw [6, 7, 14] (fun t6 t7 t14 wr => ∃ (i : Nat) (lo hi : Rat), t14 = .int .i64 i /\ i <= 3 /\ t6 = .string (RS lo) /\ t7 = .string (RS hi) /\ Hid (Nf i = some (lo, hi)) /\ Hid (Sz (24 * m + 16) lo /\ Sz (24 * m + 16) hi) /\ Below W.heap.size W wr) (fun _ _ t14 _ => 3 - (RowKit.intOf t14).toNat)
 case atStart => exact ⟨0, 0, 1, rfl, by omega, by rw [HZ0.out], by rw [HZ1.out], H00, ⟨Sz.zero _ (by omega), Sz.one.mono (by omega)⟩, Below.refl _ _⟩
 case round =>
  obtain ⟨i, lo, hi, rfl, hi3, rfl, rfl, HST, HSZ, hbr⟩ := hrel;have hbW := hB.trans (hbr.mono hB.size);have b3r := b3.below hbr b3.lt;have b4r := b4.below hbr b4.lt;have b5r := b5.below hbr b5.lt;rcases Nat.lt_or_ge i 3 with h | h
  ·obtain ⟨p, q, jc, hj3, hjc, zp, zq, hst, hcells⟩ := HCO.out i h
   have HNX : Hid (Nf (i + 1) = wStep a b (some (lo, hi)) (p, q)) := by unfold Hid; rw [hst, HST.out]
   have za := HZA.out;have zb := HZB.out;have zu := areaQ_Sz zp zq za;have zv := areaQ_Sz zp zq zb;have HA1 := Lib.hid fun w hg => area_any p q a m hm0 (by omega) zp zq za w hg
   have HA2 := Lib.hid fun w hg => area_any p q b m hm0 (by omega) zp zq zb w hg
   unfold VP at HA1 HA2;have HWE : Hid (areaQ p q a = areaQ p q b -> ¬ areaQ p q a < 0 -> Nf (i + 1) = some (lo, hi)) := fun h1 h2 => by rw [HNX.out]; exact wStep_eq h1 h2
   have HWO : Hid (areaQ p q a = areaQ p q b -> areaQ p q a < 0 -> Nf (i + 1) = none) := fun h1 h2 => by rw [HNX.out]; exact wStep_out h1 h2
   have HWL : Hid (areaQ p q a < areaQ p q b -> Nf (i + 1) = some (maxQ lo (areaQ p q a / (areaQ p q a - areaQ p q b)), hi)) := fun h1 => by rw [HNX.out]; exact wStep_lt h1
   have HWG : Hid (areaQ p q b < areaQ p q a -> Nf (i + 1) = some (lo, minQ hi (areaQ p q a / (areaQ p q a - areaQ p q b)))) := fun h1 => by rw [HNX.out]; exact wStep_gt h1
   obtain ⟨y0, y1, y2, y3⟩ := hcells wr w.heap.size _ b3r;generalize areaQ p q a = u at *;generalize areaQ p q b = v at *;have HZU := Lib.hid zu;have HZV := Lib.hid zv;have a0 := b4r.cell 0 rfl;have a1 := b4r.cell 1 rfl;have c0' := b5r.cell 0 rfl;have c1' := b5r.cell 1 rfl;have hl3 := b3r.lt;have hl4 := b4r.lt;have hl5 := b5r.lt;have hiz : (i : Int) < 3 := by omega
   have hjz : (jc : Int) < 3 := by omega
   have hjt : ((i : Int) + 1).tmod 3 = (jc : Int) := by rw [Int.tmod_eq_emod_of_nonneg (by omega)]; exact hjc
   have hw1 : IntKind.i64.wrap ((i : Int) + 1) = (i : Int) + 1 := IntWalk.i64_in _ (by omega);have hw3 : (0 : Int) <= (i : Int) + 1 := by omega
   have hw5 : IntKind.i64.wrap (jc : Int) = (jc : Int) := IntWalk.i64_in _ (by omega);have hgr := hg.below hbW;have hgd : Good wr.drew := hgr.drewN 1;clear hcells zp zq za zb zu zv hst HCO HNX HST;go_upto_region 5 with fail;go_region_held3 (fun w' => w'.cell? ⟨w.heap.size, i * 2, none⟩ = some (.string (RS p.1)) /\ w'.cell? ⟨w.heap.size, i * 2 + 1, none⟩ = some (.string (RS p.2)) /\ w'.cell? ⟨w.heap.size, jc * 2, none⟩ = some (.string (RS q.1)) /\ w'.cell? ⟨w.heap.size, jc * 2 + 1, none⟩ = some (.string (RS q.2)) /\ w'.cell? ⟨w.heap.size + 1, 0, none⟩ = some (.string (RS a.1)) /\ w'.cell? ⟨w.heap.size + 1, 1, none⟩ = some (.string (RS a.2)) /\ w'.cell? ⟨w.heap.size + 1 + 1, 0, none⟩ = some (.string (RS b.1)) /\ w'.cell? ⟨w.heap.size + 1 + 1, 1, none⟩ = some (.string (RS b.2)))
    (first | exact ⟨y0, y1, y2, y3, a0, a1, c0', c1'⟩ | exact ⟨p_1_0, p_1_1, p_1_2, p_1_3, p_1_4, p_1_5, p_1_6, p_1_7⟩ | exact ⟨p_2_0, p_2_1, p_2_2, p_2_3, p_2_4, p_2_5, p_2_6, p_2_7⟩)
    (first
    | (go_at_call 91; refine (HA2.out _ pg1).mono ?_; rintro e pw2 ⟨_, rfl, rfl, pb2⟩
       have p_2_0 := zct pb2 p_1_0;have p_2_1 := zct pb2 p_1_1;have p_2_2 := zct pb2 p_1_2;have p_2_3 := zct pb2 p_1_3;have p_2_4 := zct pb2 p_1_4;have p_2_5 := zct pb2 p_1_5;have p_2_6 := zct pb2 p_1_6;have p_2_7 := zct pb2 p_1_7;have ps2 := pb2.size;have pg2 := pg1.below pb2)
    | (go_at_call 91; refine (HA1.out _ hgd).mono ?_; rintro e pw1 ⟨_, rfl, rfl, pb1⟩
       have p_1_0 := zct pb1 y0;have p_1_1 := zct pb1 y1;have p_1_2 := zct pb1 y2;have p_1_3 := zct pb1 y3;have p_1_4 := zct pb1 a0;have p_1_5 := zct pb1 a1;have p_1_6 := zct pb1 c0';have p_1_7 := zct pb1 c1';have ps1 : wr.heap.size <= pw1.heap.size := pb1.size;have pg1 := hgd.below pb1))
   have pB : Below wr.heap.size wr pw2 := zbt (zbt (below_drewN wr 1) pb1) pb2;have hbp : Below W.heap.size W pw2 := hbr.trans (pB.mono hbr.size);clear y0 y1 y2 y3 a0 a1 c0' c1' hgd hbr b3r b4r b5r hgr hbW HA1 HA2;go_wp2_with fail;refine (ratSub_any u v (8 * m + 5) (by omega) (by omega) HZU.out HZV.out pw2 pg2).mono ?_;rintro e w4 ⟨_, rfl, rfl, hb4⟩;have hbq : Below W.heap.size W w4 := hbp.trans (hb4.mono hbp.size);have hgq := hg.below (hB.trans (hbq.mono hB.size));clear hb4 hbp pg1 pg2 pB;have HZD : Hid (Sz (16 * m + 11) (u - v)) := (HZU.out.sub HZV.out).mono (by omega);go_wp2_with fail;by_cases hE : u = v
   ·have HE := Lib.hid hE
    rw [show u - v = 0 by rw [HE.out]; grind];clear hE;refine (ratDiv_zero u w4).mono ?_;rintro e w5 ⟨_, rfl, rfl, hb5⟩;have hbq5 : Below W.heap.size W w5 := hbq.trans (hb5.mono hbq.size);clear hb5 hbq hgq;go_wp2_with fail;by_cases h0 : u < 0
    ·have H0 := Lib.hid h0
     refine (ratSign_neg u h0 w5).mono ?_;rintro e w6 ⟨_, rfl, rfl, hb6⟩;have hbq6 : Below w.heap.size w w6 := hB.trans ((hbq5.trans (hb6.mono hbq5.size)).mono hB.size);have HF : Hid (WithinP Ff (.tuple #[.string ⟨#[]⟩, .string ⟨#[]⟩, .bool false])) := by
      have hF : Ff = none := HNO.out (i + 1) (by omega) (HWO.out HE.out H0.out);rw [hF];exact ⟨_, _, rfl, fun r h => by cases h⟩
     clear h0;go_wp2_with fail
     go_ret3
     exact ⟨_, rfl, HF.out, hbq6⟩
    ·have H0 := Lib.hid h0
     refine (ratSign_nn u h0 w5).mono ?_;rintro e w6 ⟨_, rfl, ⟨z, rfl, hz0, hz1⟩, hb6⟩;have hbq6 : Below W.heap.size W w6 := hbq5.trans (hb6.mono hbq5.size);have HNX := Lib.hid (HWE.out HE.out H0.out);clear h0 hb6;go_wp2_with fail;go_roundw
     case rel => exact ⟨i + 1, lo, hi, by go_num, by omega, rfl, rfl, HNX, HSZ, hbq6⟩
     case measure => simp [RowKit.intOf]; omega
   ·have hd0 : u - v ≠ 0 := fun e => hE (by grind)
    have HZS : Hid (Sz (24 * m + 16) (u / (u - v))) := (HZU.out.div HZD.out (by omega)).mono (by omega);refine (ratDiv_any u (u - v) (16 * m + 11) (by omega) (by omega) (HZU.out.mono (by omega)) HZD.out hd0 w4 hgq).mono ?_;rintro e w5 ⟨_, rfl, rfl, hb5⟩;have hbq5 : Below W.heap.size W w5 := hbq.trans (hb5.mono hbq.size);have hgq5 := hg.below (hB.trans (hbq5.mono hB.size));clear hb5 hbq hgq hd0;by_cases hL : u < v
    ·have HNX := Lib.hid (HWL.out hL)
     have HC := Lib.hid fun w hg => ratCmp_lt u v (8 * m + 5) (by omega) (by omega) HZU.out HZV.out hL w hg
     clear hE hL;generalize u / (u - v) = s at *;go_wp2_with fail;refine (HC.out w5 hgq5).mono ?_;rintro e w6 ⟨_, rfl, rfl, hb6⟩;have hbq6 : Below W.heap.size W w6 := hbq5.trans (hb6.mono hbq5.size);have hgq6 := hg.below (hB.trans (hbq6.mono hB.size));clear hb6;go_wp2_with fail;refine (ratMax_any lo s (24 * m + 16) (by omega) (by omega) HSZ.out.1 HZS.out w6 hgq6).mono ?_;rintro e w7 ⟨_, rfl, rfl, hb7⟩;have hbq7 : Below W.heap.size W w7 := hbq6.trans (hb7.mono hbq6.size);clear hb7;go_wp2_with fail;go_roundw
     case rel => exact ⟨i + 1, maxQ lo s, hi, by go_num, by omega, rfl, rfl, HNX, ⟨maxQ_Sz HSZ.out.1 HZS.out, HSZ.out.2⟩, hbq7⟩
     case measure => simp [RowKit.intOf]; omega
    ·have hG : v < u := Rat.lt_of_le_of_ne (Rat.not_lt.1 hL) (fun e => hE e.symm)
     have HNX := Lib.hid (HWG.out hG);have HC := Lib.hid fun w hg => ratCmp_nlt u v (8 * m + 5) (by omega) (by omega) HZU.out HZV.out hL w hg
     clear hE hL hG;generalize u / (u - v) = s at *;go_wp2_with fail;refine (HC.out w5 hgq5).mono ?_;rintro e w6 ⟨_, rfl, ⟨z, rfl, hz0, hz1⟩, hb6⟩;have hbq6 : Below W.heap.size W w6 := hbq5.trans (hb6.mono hbq5.size);have hgq6 := hg.below (hB.trans (hbq6.mono hB.size));clear hb6;go_wp2_with fail;refine (ratMin_any hi s (24 * m + 16) (by omega) (by omega) HSZ.out.2 HZS.out w6 hgq6).mono ?_;rintro e w7 ⟨_, rfl, rfl, hb7⟩;have hbq7 : Below W.heap.size W w7 := hbq6.trans (hb7.mono hbq6.size);clear hb7;go_wp2_with fail;go_roundw
     case rel => exact ⟨i + 1, lo, minQ hi s, by go_num, by omega, rfl, rfl, HNX, ⟨HSZ.out.1, minQ_Sz HSZ.out.2 HZS.out⟩, hbq7⟩
     case measure => simp [RowKit.intOf]; omega
  ·have HJ : Hid (i = 3) := by unfold Hid; omega
   have hige : (3 : Int) <= (i : Int) := by omega
   have HFL : Hid (Ff = if lo < hi then some (lo, hi) else none) := HFI.out (lo, hi) (by rw [<- HJ.out]; exact HST.out);have hgr := hg.below hbW;clear HCO b3r b4r b5r HFI HNO;go_wp2_with fail;by_cases hL : lo < hi
   ·have HL := Lib.hid hL
    refine (ratCmp_lt lo hi (24 * m + 16) (by omega) (by omega) HSZ.out.1 HSZ.out.2 hL wr hgr).mono ?_;rintro e w5 ⟨_, rfl, rfl, hb5⟩;have HSZ2 := Lib.hid (HS4.out (lo, hi) (by rw [HFL.out, if_pos HL.out]));have HF : Hid (WithinP Ff (.tuple #[.string (RS lo), .string (RS hi), .bool true])) := by
     rw [HFL.out, if_pos HL.out];exact ⟨_, _, rfl, fun r h => by cases h; exact ⟨rfl, rfl, HSZ2.out.1, HSZ2.out.2, HL.out⟩⟩
    clear hL;go_wp2_with fail
    go_ret3
    exact ⟨_, rfl, HF.out, hbW.trans (hb5.mono hbW.size)⟩
   ·have HL := Lib.hid hL
    refine (ratCmp_nlt lo hi (24 * m + 16) (by omega) (by omega) HSZ.out.1 HSZ.out.2 hL wr hgr).mono ?_;rintro e w5 ⟨_, rfl, ⟨z, rfl, hz0, hz1⟩, hb5⟩;have HF : Hid (WithinP Ff (.tuple #[.string (RS lo), .string (RS hi), .bool false])) := by
     rw [HFL.out, if_neg HL.out];exact ⟨_, _, rfl, fun r h => by cases h⟩
    have hzd : decide (z < 0) = false := by simp; exact hz0
    clear hL;go_wp2_with fail
    go_ret3
    exact ⟨_, rfl, HF.out, hbW.trans (hb5.mono hbW.size)⟩
def RowQ (w : World) (g : Nat) (l : List Rat) : Prop := ∀ (a : Nat) (q : Rat), l[a]? = some q -> w.cell? ⟨g, a, none⟩ = some (.string (RS q)) /\ w.frozen? ⟨g, a, none⟩ = false
theorem RowQ.below {w w' : World} {g : Nat} {l : List Rat} (h : RowQ w g l) (hb : Below w.heap.size w w') (hg : g < w.heap.size) : RowQ w' g l := fun a q ha =>
 ⟨(zcq hb hg (h a q ha).1 :), (hb.frozen (p := ⟨g, a, none⟩) hg).trans (h a q ha).2⟩
theorem RowQ.set {w : World} {g : Nat} {l : List Rat} (h : RowQ w g l) (i : Nat) (q : Rat) (hi : i < l.length) : RowQ (w.setCell ⟨g, i, none⟩ (.string (RS q))) g (l.set i q) := fun a r ha => by
 rw [World.frozen?_setCell];by_cases e : i = a
 ·subst e
  rw [List.getElem?_set_self hi] at ha;cases ha;obtain ⟨h1, h2⟩ := h i _ (List.getElem?_eq_getElem hi);exact ⟨World.cell?_setCell_same _ _ _ h1, h2⟩
 ·rw [List.getElem?_set_ne e] at ha
  obtain ⟨h1, h2⟩ := h a r ha;exact ⟨(World.cell?_setCell_other _ _ _ _ (by intro e'; simp only [Addr.mk.injEq] at e'; omega)).trans h1, h2⟩
theorem RowQ.drew {w : World} {g : Nat} {l : List Rat} (h : RowQ w g l) : RowQ w.drew g l := h
theorem cmpQ_neg (p q : Rat) : cmpQ p q < 0 ↔ p < q := by
 unfold cmpQ;split
 ·rename_i h; exact ⟨fun _ => h, fun _ => by decide⟩
 ·rename_i h
  refine ⟨fun h2 => ?_, fun h2 => absurd h2 h⟩;split at h2 <;> omega
def InsAt (l : List Rat) (i j : Nat) : Prop := ∀ (a b : Nat) (x y : Rat), a < b -> b <= i -> b ≠ j -> l[a]? = some x -> l[b]? = some y -> x <= y
def SortTo (l : List Rat) (i : Nat) : Prop := ∀ (a b : Nat) (x y : Rat), a < b -> b < i -> l[a]? = some x -> l[b]? = some y -> x <= y
theorem InsAt.start {l : List Rat} {i : Nat} (h : SortTo l i) : InsAt l i i := fun a b x y hab hbi hbj ha hb => h a b x y hab (by omega) ha hb
theorem InsAt.done {l : List Rat} {i j : Nat} (h : InsAt l i j) (hs : ∀ jp x y, j = jp + 1 -> l[jp]? = some x -> l[j]? = some y -> x <= y) (hji : j <= i) (hil : i < l.length) : SortTo l (i + 1) := by
 intro a b x y hab hbi ha hb;by_cases e : b = j
 ·subst e
  obtain ⟨jp, rfl⟩ : ∃ jp, b = jp + 1 := ⟨b - 1, by omega⟩;obtain ⟨z, hz⟩ : ∃ z, l[jp]? = some z := ⟨_, List.getElem?_eq_getElem (by omega)⟩;have h1 := hs jp z y rfl hz hb;by_cases e2 : a = jp
  ·subst e2; rw [ha] at hz; cases hz; exact h1
  ·exact Rat.le_trans (h a jp x z (by omega) (by omega) (by omega) ha hz) h1
 ·exact h a b x y hab (by omega) e ha hb
def swapL (l : List Rat) (j : Nat) (x y : Rat) : List Rat := (l.set (j + 1) x).set j y
theorem swapL_get (l : List Rat) (j : Nat) (x y : Rat) (hl : j + 1 < l.length) (a : Nat) : (swapL l j x y)[a]? = if a = j then some y else if a = j + 1 then some x else l[a]? := by
 unfold swapL;by_cases e : a = j
 ·subst e
  rw [if_pos rfl, List.getElem?_set_self (by rw [List.length_set]; omega)]
 ·rw [if_neg e, List.getElem?_set_ne (fun h => e h.symm)]
  by_cases e2 : a = j + 1
  ·subst e2; rw [if_pos rfl, List.getElem?_set_self hl]
  ·rw [if_neg e2, List.getElem?_set_ne (fun h => e2 h.symm)]
theorem swapL_perm (l : List Rat) (j : Nat) (x y : Rat) (hx : l[j]? = some x) (hy : l[j + 1]? = some y) : (swapL l j x y).Perm l := by
 obtain ⟨h1, rfl⟩ := List.getElem?_eq_some_iff.1 hx;obtain ⟨h2, rfl⟩ := List.getElem?_eq_some_iff.1 hy;exact List.set_set_perm h2 h1
theorem InsAt.step {l : List Rat} {i j : Nat} {x y : Rat} (h : InsAt l i (j + 1)) (hx : l[j]? = some x) (hy : l[j + 1]? = some y) (hji : j + 1 <= i) (hlt : y < x) : InsAt (swapL l j x y) i j := by
 have hl : j + 1 < l.length := (List.getElem?_eq_some_iff.1 hy).1;intro a b u v hab hbi hbj ha hb;rw [swapL_get l j x y hl] at ha hb;rw [if_neg hbj] at hb;by_cases e1 : b = j + 1
 ·subst e1
  rw [if_pos rfl] at hb;cases hb;by_cases e2 : a = j
  ·subst e2; rw [if_pos rfl] at ha; cases ha; exact Rat.le_of_lt hlt
  ·rw [if_neg e2, if_neg (by omega)] at ha
   exact h a j u x (by omega) (by omega) (by omega) ha hx
 ·rw [if_neg e1] at hb
  by_cases e2 : a = j
  ·subst e2; rw [if_pos rfl] at ha; cases ha
   exact h (a + 1) b _ v (by omega) hbi e1 hy hb
  ·rw [if_neg e2] at ha
   by_cases e3 : a = j + 1
   ·subst e3; rw [if_pos rfl] at ha; cases ha
    exact h j b _ v (by omega) hbi e1 hx hb
   ·rw [if_neg e3] at ha
    exact h a b u v hab hbi e1 ha hb
theorem insertion_any (w0 w : World) (g cap : Nat) (l0 : List Rat) (hln : l0.length <= 12) (hsz : ∀ q ∈ l0, Sz 200 q) (hrow : RowQ w g l0) (hgl : g < w.heap.size) (hb0 : Below w0.heap.size w0 w) (h0g : w0.heap.size <= g) (hg : Good w0) :
 Calls Tryz.prog 149 #[.slice (some ⟨g, 0, none⟩) l0.length cap, .int .i64 0, .int .i64 (l0.length : Int), .func (.func 45) #[] #[]] w
  (fun e w' => e = .returned (.tuple #[]) /\ ∃ l, l.Perm l0 /\ SortTo l l.length /\ RowQ w' g l /\ w.grownBy w' (some g)) := by
 have HSZ := Lib.hid hsz;have HCM : Hid (∀ p q : Rat, Sz 200 p -> Sz 200 q -> ∀ w, Good w -> Calls Tryz.prog 45 #[.string (RS p), .string (RS q)] w (Ret (fun v _ => v = .int .i64 (cmpQ p q)) w)) := fun p q hp hq w hg => ratCompare_any p q 200 (by omega) (by omega) hp hq w hg
 obtain ⟨n, hn⟩ : ∃ n, n = l0.length := ⟨_, rfl⟩;rw [<- hn] at hln ⊢;have HN := Lib.hid hn;have HROW := Lib.hid hrow;clear hsz hn hrow;go_enter Tryz.func149, Tryz.ntmps149;go_wp2_with fail;go_loopw [8] (fun t8 wr => ∃ (i : Nat) (l : List Rat), t8 = .int .i64 i /\ 1 <= i /\ (i <= n \/ i = 1) /\ Hid (l.Perm l0) /\ Hid (SortTo l i) /\ Hid (RowQ wr g l) /\ w.grownBy wr (some g)) (fun t8 _ => n - (RowKit.intOf t8).toNat)
 case atStart => exact ⟨1, l0, rfl, by omega, .inr rfl, List.Perm.refl _, (fun a b x y h1 h2 => by omega), HROW.out, gb_refl _ _⟩
 case round =>
  obtain ⟨i, l, rfl, hi1, hin, HP, HS, HR, hgb⟩ := hrel;clear HROW;rcases Nat.lt_or_ge i n with h | h
  ·have hiz : (i : Int) < (n : Int) := by omega
   obtain ⟨wo, hwo⟩ : ∃ wo : World, wo = wr := ⟨_, rfl⟩;subst hwo;go_wp2_with fail;go_loopw [9] (fun t9 wr => ∃ (j : Nat) (l : List Rat), t9 = .int .i64 j /\ j <= i /\ Hid (l.Perm l0) /\ Hid (InsAt l i j) /\ Hid (RowQ wr g l) /\ w.grownBy wr (some g)) (fun t9 _ => (RowKit.intOf t9).toNat)
   case atStart => exact ⟨i, l, rfl, Nat.le_refl _, HP, InsAt.start HS.out, HR.out, hgb⟩
   case round =>
    clear HP HS HR hgb;obtain ⟨j, l, rfl, hji, HP, HI, HR, hgb⟩ := hrel;have HLN : Hid (l.length = n) := by unfold Hid; rw [HP.out.length_eq, HN.out]
    have hbr : Below w0.heap.size w0 wr := below_gb hb0 hgb h0g;have hgr := hg.below hbr;have hgd : Good wr.drew := hgr.drewN 1;have hgl2 : g < wr.heap.size := Nat.lt_of_lt_of_le hgl hgb.size;rcases j with _ | jp
    ·rw [show ((0 : Nat) : Int) = 0 from rfl]
     have HDN : Hid (SortTo l (i + 1)) := HI.out.done (fun jq u v e => by omega) hji (by rw [HLN.out]; exact h);clear hgd hgr hbr;go_upto_region 4 with fail;go_region;go_wp2_with fail;go_roundw
     case rel => exact ⟨i + 1, l, by go_num, by omega, .inl (by omega), HP, HDN, HR.out, gb_below hgb (below_drewN _ 1)⟩
     case measure => simp [RowKit.intOf]; omega
    ·rw [show ((jp + 1 : Nat) : Int) = (jp : Int) + 1 from rfl]
     have hj1 : jp + 1 < l.length := by rw [HLN.out]; omega
     obtain ⟨x, hx⟩ : ∃ x, l[jp]? = some x := ⟨_, List.getElem?_eq_getElem (by omega)⟩;obtain ⟨y, hy⟩ : ∃ y, l[jp + 1]? = some y := ⟨_, List.getElem?_eq_getElem hj1⟩;have zx : Sz 200 x := HSZ.out x (HP.out.mem_iff.1 (List.mem_of_getElem? hx));have zy : Sz 200 y := HSZ.out y (HP.out.mem_iff.1 (List.mem_of_getElem? hy));have HC := Lib.hid fun w hg => HCM.out y x zy zx w hg;obtain ⟨c0, f0⟩ := HR.out jp x hx;obtain ⟨c1, f1⟩ := HR.out (jp + 1) y hy;have HX := Lib.hid hx;have HY := Lib.hid hy;have hjz1 : (jp : Int) + 1 < (n : Int) := by omega
     have hjz2 : (jp : Int) < (n : Int) := by omega
     have hjz3 : (0 : Int) < (jp : Int) + 1 := by omega
     have hw1 : IntKind.i64.wrap ((jp : Int) + 1) = (jp : Int) + 1 := IntWalk.i64_in _ (by omega);have hw2 : IntKind.i64.wrap ((jp : Int) + 1 - 1) = (jp : Int) := by rw [show (jp : Int) + 1 - 1 = (jp : Int) by omega]; exact IntWalk.i64_in _ (by omega)
     have hw3 : IntKind.i64.wrap (jp : Int) = (jp : Int) := IntWalk.i64_in _ (by omega);have hw4 : (0 : Int) <= (jp : Int) + 1 := by omega
     have hw5 : ((jp : Int) + 1).toNat = jp + 1 := by omega
     have hdec : decide ((0 : Int) < (jp : Int) + 1) = true := decide_eq_true hjz3;clear hx hy hj1 zx zy;go_upto_region 4 with fail;go_region_held3 (fun w' => w'.cell? ⟨g, jp + 1, none⟩ = some (.string (RS y)) /\ w'.cell? ⟨g, jp, none⟩ = some (.string (RS x)))
      (first | exact ⟨c1, c0⟩ | exact ⟨p_1_0, p_1_1⟩)
      (first
      | (go_at_call 45; refine (HC.out _ hgd).mono ?_; rintro e pw1 ⟨_, rfl, rfl, pb1⟩
         have p_1_0 := zct pb1 c1;have p_1_1 := zct pb1 c0;have ps1 : wr.heap.size <= pw1.heap.size := pb1.size;have pg1 := hgd.below pb1))
     have pB : Below wr.heap.size wr pw1 := zbt (below_drewN wr 1) pb1;clear hw1 hw2 hw3 hw5 hdec;have hgb1 := gb_below hgb pB;have HR1 : Hid (RowQ pw1 g l) := RowQ.below HR.out pB hgl2;have hbr1 : Below w0.heap.size w0 pw1 := below_gb hb0 hgb1 h0g;have HCZ : Hid (cmpQ y x < 0 ↔ y < x) := cmpQ_neg y x;have hgl3 : g < pw1.heap.size := Nat.lt_of_lt_of_le hgl hgb1.size;generalize cmpQ y x = z at *;clear hgb HR c0 c1 f0 f1 hgd pg1 pB hbr hgr;obtain ⟨c0, f0⟩ := HR1.out jp x HX.out;obtain ⟨c1, f1⟩ := HR1.out (jp + 1) y HY.out;by_cases hz : z < 0
     ·have hlt := HCZ.out.1 hz
      have HLT := Lib.hid hlt;have HL1 : Hid (jp + 1 < l.length) := by unfold Hid; rw [HLN.out]; omega
      have hIS : InsAt (swapL l jp x y) i jp := InsAt.step HI.out HX.out HY.out hji hlt;have HIS := Lib.hid hIS;have HPS : Hid ((swapL l jp x y).Perm l0) := (swapL_perm l jp x y HX.out HY.out).trans HP.out;have hw1 : IntKind.i64.wrap ((jp : Int) + 1) = (jp : Int) + 1 := IntWalk.i64_in _ (by omega);have hw2 : IntKind.i64.wrap ((jp : Int) + 1 - 1) = (jp : Int) := by rw [show (jp : Int) + 1 - 1 = (jp : Int) by omega]; exact IntWalk.i64_in _ (by omega)
      have hw3 : IntKind.i64.wrap (jp : Int) = (jp : Int) := IntWalk.i64_in _ (by omega);have hw5 : ((jp : Int) + 1).toNat = jp + 1 := by omega
      have hne1 : jp ≠ jp + 1 := by omega
      have hne2 : jp + 1 ≠ jp := by omega
      clear hIS hlt;go_upto_region 6 with fail;go_region;have HR2 : Hid (RowQ ((pw1.setCell ⟨g, jp + 1, none⟩ (.string (RS x))).setCell ⟨g, jp, none⟩ (.string (RS y))).drew g (swapL l jp x y)) := by
       unfold Hid swapL;exact ((HR1.out.set (jp + 1) x HL1.out).set jp y (by rw [List.length_set]; have := HL1.out; omega)).drew
      have hgb2 : w.grownBy ((pw1.setCell ⟨g, jp + 1, none⟩ (.string (RS x))).setCell ⟨g, jp, none⟩ (.string (RS y))).drew (some g) :=
       gb_below (gb_set (gb_set hgb1 (jp + 1) _) jp _) (below_drewN _ 1)
      clear hw1 hw2 hw3 hw5;go_wp2_with fail;go_roundw
      case rel => exact ⟨jp, _, by go_num, by omega, HPS, HIS, HR2, hgb2⟩
      case measure => simp [RowKit.intOf] <;> omega
     ·have hnl : ¬ y < x := fun h => hz (HCZ.out.2 h)
      have HDN : Hid (SortTo l (i + 1)) := HI.out.done (fun jq u v e hu hv => by
       obtain rfl : jp = jq := by omega
       rw [HX.out] at hu; rw [HY.out] at hv; cases hu; cases hv;exact Rat.not_lt.1 hnl) hji (by rw [HLN.out]; exact h)
      clear hnl c0 f0 c1 f1;go_wp2_with fail;go_roundw
      case rel => exact ⟨i + 1, l, by go_num, by omega, .inl (by omega), HP, HDN, HR1, hgb1⟩
      case measure => simp [RowKit.intOf]; omega
  ·have hge : (n : Int) <= (i : Int) := by omega
   have HLN : Hid (l.length = n) := by unfold Hid; rw [HP.out.length_eq, HN.out]
   have HS2 : Hid (SortTo l l.length) := fun a b x y h1 h2 hx hy => HS.out a b x y h1 (by have := HLN.out; omega) hx hy
   go_wp2_with fail;go_end0;exact ⟨rfl, l, HP.out, HS2.out, HR.out, hgb⟩
theorem pdq_any (w0 w : World) (g cap : Nat) (l0 : List Rat) (hln : l0.length <= 12) (hsz : ∀ q ∈ l0, Sz 200 q) (hrow : RowQ w g l0) (hgl : g < w.heap.size) (hb0 : Below w0.heap.size w0 w) (h0g : w0.heap.size <= g) (hg : Good w0) (lim : Int) :
 Calls Tryz.prog 96 #[.slice (some ⟨g, 0, none⟩) l0.length cap, .int .i64 0, .int .i64 (l0.length : Int), .int .i64 lim, .func (.func 45) #[] #[]] w
  (fun e w' => e = .returned (.tuple #[]) /\ ∃ l, l.Perm l0 /\ SortTo l l.length /\ RowQ w' g l /\ w.grownBy w' (some g)) := by
 have HI := Lib.hid (insertion_any w0 w g cap l0 hln hsz hrow hgl hb0 h0g hg);have hnz : (l0.length : Int) <= 12 := by omega
 have hnz0 : (0 : Int) <= (l0.length : Int) := by omega
 generalize l0.length = n at *;clear hsz hrow hgl hb0 h0g hg;go_enter Tryz.func96, Tryz.ntmps96;go_wp2_with fail;refine wp_loop_rounds 1 ?_;rw [rounds_succ];go_wp2_with fail;refine HI.out.mono ?_;rintro e w' ⟨rfl, l, h1, h2, h3, h4⟩;go_wp2_with fail;exact bodyPost_ret (v := .tuple #[]) (by simp [results, Tryz.results96, go_sem]) rfl ⟨rfl, l, h1, h2, h3, h4⟩
theorem sortRat_any (w0 w : World) (g cap : Nat) (l0 : List Rat) (hln : l0.length <= 12) (hsz : ∀ q ∈ l0, Sz 200 q) (hrow : RowQ w g l0) (hgl : g < w.heap.size) (hb0 : Below w0.heap.size w0 w) (h0g : w0.heap.size <= g) (hg : Good w0) :
 Calls Tryz.prog 44 #[.slice (some ⟨g, 0, none⟩) l0.length cap, .func (.func 45) #[] #[]] w
  (fun e w' => e = .returned (.tuple #[]) /\ ∃ l, l.Perm l0 /\ SortTo l l.length /\ RowQ w' g l /\ w.grownBy w' (some g)) := by
 have HI : Hid (∀ lim : Int, _) := fun lim => pdq_any w0 w g cap l0 hln hsz hrow hgl hb0 h0g hg lim;have hl : Calls Tryz.prog 97 #[.int .u64 (l0.length : Int)] w fun e w' => e = .returned (.int .i64 (Lib.bitLen l0.length : Nat)) /\ w' = w := by
  have h := Any.bits_Len (SlLaysF0.n15.bits (P := Tryz.prog) (ρ := Tryz.sortRat_ren) { Tryz.sortRat with }) (l0.length : Int) w (by omega) (by omega);rwa [Int.toNat_natCast] at h
 have wr : IntKind.u64.wrap (l0.length : Int) = l0.length := by simp [IntKind.wrap, IntKind.bits, IntKind.signed]; omega
 have hnz : (l0.length : Int) <= 12 := by omega
 generalize Lib.bitLen l0.length = lim at *;generalize l0.length = n at *;clear hsz hrow hgl hb0 h0g hg;go_enter Tryz.func44, Tryz.ntmps44;go_wp2_with fail;refine hl.mono ?_;rintro e w1 ⟨rfl, hw1⟩;rw [hw1];clear hw1;go_wp2_with fail;refine (HI.out _).mono ?_;rintro e w' ⟨rfl, l, h1, h2, h3, h4⟩;go_wp2_with fail;go_end0;exact ⟨rfl, l, h1, h2, h3, h4⟩
def insD (x : Rat) : List Rat -> List Rat
 | [] => [x]
 | y :: l => if x < y then x :: y :: l else if y < x then y :: insD x l else y :: l
def sortD (l : List Rat) : List Rat := l.foldr insD []
theorem rat_lt_trans {a b c : Rat} (h1 : a < b) (h2 : b < c) : a < c := by
 refine Rat.not_le.1 fun h => ?_;exact absurd (Rat.not_le.2 h1) (fun k => k (Rat.le_trans (Rat.le_of_lt h2) h))
theorem rat_lt_of_le_lt {a b c : Rat} (h1 : a <= b) (h2 : b < c) : a < c := Rat.not_le.1 fun h => absurd (Rat.le_trans h h1) (Rat.not_le.2 h2)
theorem rat_eq {x y : Rat} (h1 : ¬ x < y) (h2 : ¬ y < x) : x = y := Rat.le_antisymm (Rat.not_lt.1 h2) (Rat.not_lt.1 h1)
theorem insD_mem (x q : Rat) (l : List Rat) : q ∈ insD x l ↔ q = x \/ q ∈ l := by
 induction l with
 | nil => simp [insD]
 | cons y l ih =>
   unfold insD;split
   ·simp
   ·split
    ·rw [List.mem_cons, ih, List.mem_cons]; constructor <;> (rintro (h | h | h) <;> simp [h])
    ·rename_i h1 h2
     have := rat_eq h1 h2;subst this;simp
theorem insD_pw (x : Rat) (l : List Rat) (h : l.Pairwise (· < ·)) : (insD x l).Pairwise (· < ·) := by
 induction l with
 | nil => simp [insD]
 | cons y l ih =>
   rw [List.pairwise_cons] at h;unfold insD;split
   ·rename_i h1
    rw [List.pairwise_cons, List.pairwise_cons];refine ⟨fun q hq => ?_, h⟩;rcases List.mem_cons.1 hq with rfl | hq
    ·exact h1
    ·exact rat_lt_trans h1 (h.1 q hq)
   ·split
    ·rename_i h1 h2
     rw [List.pairwise_cons];refine ⟨fun q hq => ?_, ih h.2⟩;rcases (insD_mem x q l).1 hq with rfl | hq
     ·exact h2
     ·exact h.1 q hq
    ·exact List.pairwise_cons.2 h
theorem sortD_mem (l : List Rat) (q : Rat) : q ∈ sortD l ↔ q ∈ l := by
 unfold sortD
 induction l with
 | nil => simp
 | cons x l ih => rw [List.foldr_cons, insD_mem, ih, List.mem_cons]
theorem sortD_pw (l : List Rat) : (sortD l).Pairwise (· < ·) := by
 unfold sortD
 induction l with
 | nil => simp
 | cons x l ih => rw [List.foldr_cons]; exact insD_pw x _ ih
theorem pw_unique {a b : List Rat} (ha : a.Pairwise (· < ·)) (hb : b.Pairwise (· < ·)) (h : ∀ q, q ∈ a ↔ q ∈ b) : a = b := by
 have nd : ∀ {l : List Rat}, l.Pairwise (·< ·) -> l.Nodup := fun hl => hl.imp (fun h e => by rw [e] at h; exact Rat.lt_irrefl h)
 exact ((List.perm_ext_iff_of_nodup (nd ha) (nd hb)).2 h).eq_of_pairwise (fun x y _ _ h1 h2 => absurd (rat_lt_trans h1 h2) Rat.lt_irrefl) ha hb
theorem sortD_perm {a b : List Rat} (h : a.Perm b) : sortD a = sortD b :=
 pw_unique (sortD_pw a) (sortD_pw b) fun q => by rw [sortD_mem, sortD_mem, h.mem_iff]
def encO : Option Rat -> Value
 | none => .string ⟨#[]⟩
 | some q => .string (RS q)
theorem enc_eq (x y : Option Rat) : ∃ a b : ByteArray, encO x = .string a /\ encO y = .string b /\ (a.toList == b.toList) = decide (x = y) := by
 have hne : ∀ q : Rat, (RS q).toList ≠ [] := fun q => by
  rw [ba_toList, RS_list]; exact RL_ne_nil q
 have he : (⟨#[]⟩ : ByteArray).toList = [] := by rw [ba_toList]
 cases x with
 | none =>
   cases y with
   | none => exact ⟨_, _, rfl, rfl, by simp⟩
   | some q => exact ⟨_, _, rfl, rfl, by rw [he]; simp; exact hne q⟩
 | some p =>
   cases y with
   | none => exact ⟨_, _, rfl, rfl, by rw [he]; simp; exact hne p⟩
   | some q => exact ⟨_, _, rfl, rfl, by
      rw [ba_toList, ba_toList, RS_list, RS_list, RL_beq];simp⟩
theorem eqlO (T : Nat) : EqlAt Tryz.prog T encO (fun x y => decide (x = y)) := by
 refine ⟨fun x y w => ?_, fun op a b x y w => ?_⟩
 ·obtain ⟨a, b, h1, h2, h3⟩ := enc_eq x y
  show Sem.run _ _ w = Result.ok (Value.bool (decide (x = y))) w;rw [h1, h2, <- h3];exact (EqlAt.string Tryz.prog T).1 a b w
 ·obtain ⟨u, v, h1, h2, _⟩ := enc_eq x y
  rw [h1, h2];exact GuardAt.string Tryz.prog T op a b u v w
theorem neqO (T : Nat) : NeqAt Tryz.prog T encO (fun x y => decide (x = y)) := by
 refine ⟨fun x y w => ?_, (eqlO T).2⟩;obtain ⟨a, b, h1, h2, h3⟩ := enc_eq x y;show Sem.run _ _ w = Result.ok (Value.bool (!decide (x = y))) w;rw [h1, h2, <- h3];exact (NeqAt.string Tryz.prog T).1 a b w
open Go.Sort in
theorem putRow_gb {α : Type} [Inhabited α] (enc : α -> Value) (w : World) (q blk off : Nat) (d : Array α) : w.grownBy (putRow enc (Sort.ahead w q) blk off d) (some blk) := by
 refine ⟨rfl, rfl, rfl, (by simp [putRow, mapBlock, Sort.ahead]), fun j hj hjn => ?_⟩;unfold putRow mapBlock Sort.ahead;show (w.heap.modify blk _)[j]? = _;rw [Array.getElem?_modify, if_neg (by rintro rfl; exact hjn rfl)]
theorem compact_sorted (l : List Rat) (hs : SortTo l l.length) (m : Nat) (hm : m <= l.length) :
 ∃ E : List Rat, Lib.compactUpTo (l.map some).toArray m = E.map some /\ E.Pairwise (·< ·) /\ ∀ q, q ∈ E ↔ ∃ a, a < m /\ l[a]? = some q := by
 have hget : ∀ a x, l[a]? = some x -> (l.map some).toArray[a]! = some x := fun a x h => by
  obtain ⟨h1, rfl⟩ := List.getElem?_eq_some_iff.1 h;rw [getElem!_pos _ a (by simpa using h1)];simp
 induction m with
 | zero => exact ⟨[], rfl, List.Pairwise.nil, fun q => by simp⟩
 | succ m ih =>
   obtain ⟨E, h1, h2, h3⟩ := ih (by omega);obtain ⟨x, hx⟩ : ∃ x, l[m]? = some x := ⟨_, List.getElem?_eq_getElem (by omega)⟩;rw [Lib.compactUpTo_succ, h1];cases hk : Lib.keeps (l.map some).toArray m
   ·refine ⟨E, by simp, h2, fun q => ?_⟩
    rw [h3];unfold Lib.keeps at hk;have hk' := of_decide_eq_false hk;obtain ⟨m', rfl⟩ : ∃ m', m = m' + 1 := by
     rcases m with _ | m'
     ·exact absurd (.inl rfl) hk'
     ·exact ⟨m', rfl⟩
    obtain ⟨y, hy⟩ : ∃ y, l[m']? = some y := ⟨_, List.getElem?_eq_getElem (by omega)⟩;have hxy : x = y := by
     have := fun h => hk' (.inr h);rw [hget _ _ hx, Nat.add_sub_cancel, hget _ _ hy] at this;exact Option.some.inj (Classical.not_not.1 this)
    subst hxy;constructor
    ·rintro ⟨a, ha, hq⟩; exact ⟨a, by omega, hq⟩
    ·rintro ⟨a, ha, hq⟩
     by_cases e : a = m' + 1
     ·subst e; rw [hx] at hq; cases hq; exact ⟨m', by omega, hy⟩
     ·exact ⟨a, by omega, hq⟩
   ·refine ⟨E ++ [x], by simp [hget _ _ hx], ?_, fun q => ?_⟩
    ·rw [List.pairwise_append]
     refine ⟨h2, by simp, fun q hq r hr => ?_⟩;rw [List.mem_singleton] at hr;subst hr;obtain ⟨a, ha, hqa⟩ := (h3 q).1 hq;unfold Lib.keeps at hk;have hk' := of_decide_eq_true hk;obtain ⟨m', rfl⟩ : ∃ m', m = m' + 1 := ⟨m - 1, by omega⟩;obtain ⟨y, hy⟩ : ∃ y, l[m']? = some y := ⟨_, List.getElem?_eq_getElem (by omega)⟩;have hne : r ≠ y := by
      rcases hk' with h | h
      ·omega
      ·rw [hget _ _ hx, Nat.add_sub_cancel, hget _ _ hy] at h
       exact fun e => h (by rw [e])
     have hyr : y < r := Rat.lt_of_le_of_ne (hs m' (m' + 1) y r (by omega) (by omega) hy hx) (fun e => hne e.symm);by_cases e : a = m'
     ·subst e; rw [hqa] at hy; cases hy; exact hyr
     ·exact rat_lt_of_le_lt (hs a m' q y (by omega) (by omega) hqa hy) hyr
    ·rw [List.mem_append, h3, List.mem_singleton]
     constructor
     ·rintro (⟨a, ha, hq⟩ | rfl)
      ·exact ⟨a, by omega, hq⟩
      ·exact ⟨m, by omega, hx⟩
     ·rintro ⟨a, ha, hq⟩
      by_cases e : a = m
      ·subst e; rw [hx] at hq; cases hq; exact .inr rfl
      ·exact .inl ⟨a, by omega, hq⟩
open Go.Sort in
theorem compactRat_any (w : World) (g cap : Nat) (l : List Rat) (hln : l.length <= 1000) (hs : SortTo l l.length) (hrow : RowQ w g l) (hcap : l.length <= cap) :
 Calls Tryz.prog 46 #[.slice (some ⟨g, 0, none⟩) l.length cap] w
  (fun e w' => e = .returned (.slice (some ⟨g, 0, none⟩) (sortD l).length cap) /\ RowQ w' g (sortD l) /\ w.grownBy w' (some g)) := by
 have hds : ((l.map some).toArray : Array (Option Rat)).size = l.length := by simp
 have hH : Holds encO w g 0 (l.map some).toArray := fun j hj => by
  rw [hds] at hj;rw [Nat.zero_add, getElem!_pos _ j (by rw [hds]; exact hj)];simp only [List.getElem_toArray, List.getElem_map];exact hrow j _ (List.getElem?_eq_getElem hj)
 have hcon := AnyE.slices_Compact Tryz.compactRat encO (fun x => by cases x <;> rfl) (eqlO _) (neqO _) none (fun w => by kernel_rfl) g 0 cap (l.map some).toArray w hH (by rw [hds]; omega) (by rw [hds]; exact hcap);rw [hds] at hcon;change Calls Tryz.prog 46 _ _ _ at hcon;obtain ⟨E, h1, h2, h3⟩ := compact_sorted l hs l.length (Nat.le_refl _);have hE : E = sortD l := pw_unique h2 (sortD_pw l) fun q => by
  rw [h3, sortD_mem, List.mem_iff_getElem?];constructor
  ·rintro ⟨a, _, h⟩; exact ⟨a, h⟩
  ·rintro ⟨a, h⟩; exact ⟨a, (List.getElem?_eq_some_iff.1 h).1, h⟩
 rw [h1, hE, List.length_map] at hcon;refine hcon.mono ?_;rintro e w' ⟨rfl, q, rfl⟩;refine ⟨rfl, fun a x ha => ?_, putRow_gb _ _ _ _ _ _⟩;have hlen : (sortD l).length <= l.length := by
  rw [<- hE];have h4 : (E.map some).length <= l.length := by
   rw [<- h1];unfold Lib.compactUpTo;rw [List.length_map];exact Nat.le_trans (List.length_filter_le _ _) (by simp)
  simpa using h4
 have hsz : (((sortD l).map some ++ List.replicate (l.length - (sortD l).length) none).toArray : Array (Option Rat)).size = ((l.map some).toArray : Array (Option Rat)).size := by simp; omega
 have hp := holds_putRow encO (Sort.ahead w q) g 0 (l.map some).toArray _ (holds_ahead encO w q g 0 _ hH) hsz;have hal : a < (sortD l).length := (List.getElem?_eq_some_iff.1 ha).1;have := hp a (by simp; omega);rw [Nat.zero_add, getElem!_pos _ a (by simp; omega)] at this;simp only [List.getElem_toArray] at this;rw [List.getElem_append_left (by simpa using hal), List.getElem_map] at this;obtain ⟨_, e⟩ := List.getElem?_eq_some_iff.1 ha;rw [e] at this;exact this
end Go.Proofs.YtegiemcnfbchoaaGreatDoor
