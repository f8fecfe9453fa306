import Derived.Test.YtegiemcnfbchoaaGreatDoorPF60
/- Plain What MeshSpans needs beside -/
set_option maxHeartbeats 2000000
namespace Go.Proofs.YtegiemcnfbchoaaGreatDoor
open Go.RowKit Go.Lib
def affQ (u v t : Rat) : Rat := u + t * (v - u)
theorem aff_half {u v t : Rat} (h : u < v) : 0 <= affQ u v t ↔ u / (u - v) <= t := by
 have hd : 0 < v - u := by grind
 have hne : u - v ≠ 0 := by grind
 have hs : u / (u - v) * (u - v) = u := Rat.div_mul_cancel hne;generalize u / (u - v) = s at *;have e : affQ u v t = (t - s) * (v - u) := by unfold affQ; grind
 rw [e];constructor
 ·intro h1
  refine Rat.not_lt.1 fun h2 => ?_;have h3 : 0 < (s - t) * (v - u) := Rat.mul_pos (by grind) hd;grind
 ·intro h1
  exact Rat.mul_nonneg (by grind) (Rat.le_of_lt hd)
theorem aff_half2 {u v t : Rat} (h : v < u) : 0 <= affQ u v t ↔ t <= u / (u - v) := by
 have hd : 0 < u - v := by grind
 have hne : u - v ≠ 0 := by grind
 have hs : u / (u - v) * (u - v) = u := Rat.div_mul_cancel hne;generalize u / (u - v) = s at *;have e : affQ u v t = (s - t) * (u - v) := by unfold affQ; grind
 rw [e];constructor
 ·intro h1
  refine Rat.not_lt.1 fun h2 => ?_;have h3 : 0 < (t - s) * (u - v) := Rat.mul_pos (by grind) hd;grind
 ·intro h1
  exact Rat.mul_nonneg (by grind) (Rat.le_of_lt hd)
theorem maxQ_le (p q t : Rat) : maxQ p q <= t ↔ p <= t /\ q <= t := by unfold maxQ; split <;> grind
theorem le_minQ (p q t : Rat) : t <= minQ p q ↔ t <= p /\ t <= q := by unfold minQ; split <;> grind
def ISp (o : Option (Rat × Rat)) (Q : Rat -> Prop) : Prop :=
 match o with
 | none => ∀ t, 0 <= t -> t <= 1 -> ¬ Q t
 | some l => ∀ t, (l.1 <= t /\ t <= l.2) ↔ ((0 <= t /\ t <= 1) /\ Q t)
def cutO (o : Option (Rat × Rat)) : Option (Rat × Rat) := o.bind fun l => if l.1 < l.2 then some l else none
theorem ISp.cut {o : Option (Rat × Rat)} {Q : Rat -> Prop} (h : ISp o Q) :
 (∃ l, cutO o = some l /\ l.1 < l.2 /\ ∀ t, (l.1 <= t /\ t <= l.2) ↔ ((0 <= t /\ t <= 1) /\ Q t)) \/
 (cutO o = none /\ ∀ t t', t < t' -> (0 <= t /\ t <= 1) -> (0 <= t' /\ t' <= 1) -> Q t -> Q t' -> False) := by
 cases o with
 | none => exact .inr ⟨rfl, fun t t' _ h1 _ h3 _ => h t h1.1 h1.2 h3⟩
 | some l =>
   by_cases hl : l.1 < l.2
   ·exact .inl ⟨l, by unfold cutO; show (if l.1 < l.2 then some l else none) = _; rw [if_pos hl], hl, h⟩
   ·refine .inr ⟨by unfold cutO; show (if l.1 < l.2 then some l else none) = _; rw [if_neg hl], fun t t' h0 h1 h2 h3 h4 => ?_⟩
    have a1 := (h t).2 ⟨h1, h3⟩;have a2 := (h t').2 ⟨h2, h4⟩;grind
theorem iv_eq {a b a' b' : Rat} (h : a < b) (h' : a' < b') (e : ∀ t, (a <= t /\ t <= b) ↔ (a' <= t /\ t <= b')) : a = a' /\ b = b' := by
 have e1 := (e a).1 ⟨Rat.le_refl, Rat.le_of_lt h⟩;have e2 := (e b).1 ⟨Rat.le_of_lt h, Rat.le_refl⟩;have e3 := (e a').2 ⟨Rat.le_refl, Rat.le_of_lt h'⟩;have e4 := (e b').2 ⟨Rat.le_of_lt h', Rat.le_refl⟩;grind
theorem cut_congr {o o' : Option (Rat × Rat)} {Q Q' : Rat -> Prop} (h : ISp o Q) (h' : ISp o' Q') (e : ∀ t, 0 <= t -> t <= 1 -> (Q t ↔ Q' t)) : cutO o = cutO o' := by
 rcases h.cut with ⟨l, hl, hlt, hq⟩ | ⟨hl, hq⟩ <;> rcases h'.cut with ⟨l', hl', hlt', hq'⟩ | ⟨hl', hq'⟩
 ·have := iv_eq hlt hlt' fun t => by
   rw [hq t, hq' t];exact ⟨fun x => ⟨x.1, (e t x.1.1 x.1.2).1 x.2⟩, fun x => ⟨x.1, (e t x.1.1 x.1.2).2 x.2⟩⟩
  rw [hl, hl', show l = l' from Prod.ext this.1 this.2]
 ·have a1 := (hq l.1).1 ⟨Rat.le_refl, Rat.le_of_lt hlt⟩
  have a2 := (hq l.2).1 ⟨Rat.le_of_lt hlt, Rat.le_refl⟩;exact (hq' _ _ hlt a1.1 a2.1 ((e _ a1.1.1 a1.1.2).1 a1.2) ((e _ a2.1.1 a2.1.2).1 a2.2)).elim
 ·have a1 := (hq' l'.1).1 ⟨Rat.le_refl, Rat.le_of_lt hlt'⟩
  have a2 := (hq' l'.2).1 ⟨Rat.le_of_lt hlt', Rat.le_refl⟩;exact (hq _ _ hlt' a1.1 a2.1 ((e _ a1.1.1 a1.1.2).2 a1.2) ((e _ a2.1.1 a2.1.2).2 a2.2)).elim
 ·rw [hl, hl']
def onB (a b : PtQ) (L : List (PtQ × PtQ)) (t : Rat) : Prop := ∀ s ∈ L, 0 <= affQ (areaQ s.1 s.2 a) (areaQ s.1 s.2 b) t
theorem onB_snoc {a b : PtQ} {L : List (PtQ × PtQ)} {s : PtQ × PtQ} (t : Rat) : onB a b (L ++ [s]) t ↔ onB a b L t /\ 0 <= affQ (areaQ s.1 s.2 a) (areaQ s.1 s.2 b) t := by
 unfold onB;constructor
 ·exact fun h => ⟨fun r hr => h r (List.mem_append_left _ hr), h s (by simp)⟩
 ·rintro ⟨h1, h2⟩ r hr
  rcases List.mem_append.1 hr with hr | hr
  ·exact h1 r hr
  ·rw [List.mem_singleton] at hr; subst hr; exact h2
theorem wStep_sp {a b : PtQ} {o : Option (Rat × Rat)} {L : List (PtQ × PtQ)} {s : PtQ × PtQ} (h : ISp o (onB a b L)) : ISp (wStep a b o s) (onB a b (L ++ [s])) := by
 have hon := fun t => onB_snoc (a := a) (b := b) (L := L) (s := s) t;cases o with
 | none => exact fun t h0 h1 hq => h t h0 h1 ((hon t).1 hq).1
 | some l =>
   have h : ∀ t, (l.1 <= t /\ t <= l.2) ↔ ((0 <= t /\ t <= 1) /\ onB a b L t) := h;unfold wStep; dsimp only;generalize areaQ s.1 s.2 a = u at *;generalize areaQ s.1 s.2 b = v at *;split
   ·rename_i e; subst e
    have ha : ∀ t, affQ u u t = u := by intro t; unfold affQ; grind
    split
    ·rename_i h2
     intro t _ _ hq;have h3 := ((hon t).1 hq).2;rw [ha] at h3;exact absurd h3 (Rat.not_le.2 h2)
    ·rename_i h2
     intro t;rw [hon, ha, <- and_assoc, <- h t];exact ⟨fun x => ⟨x, Rat.not_lt.1 h2⟩, fun x => x.1⟩
   ·rename_i hne
    split
    ·rename_i hlt
     intro t;rw [hon, aff_half hlt, <- and_assoc, <- h t];show maxQ l.1 _ <= t /\ t <= l.2 ↔ _;rw [maxQ_le];exact ⟨fun x => ⟨⟨x.1.1, x.2⟩, x.1.2⟩, fun x => ⟨⟨x.1.1, x.2⟩, x.1.2⟩⟩
    ·rename_i hnl
     have hlt : v < u := by grind
     intro t;rw [hon, aff_half2 hlt, <- and_assoc, <- h t];show l.1 <= t /\ t <= minQ l.2 _ ↔ _;rw [le_minQ];exact ⟨fun x => ⟨⟨x.1, x.2.1⟩, x.2.2⟩, fun x => ⟨x.1.1, ⟨x.1.2, x.2⟩⟩⟩
theorem aff_between {u v t : Rat} (h0 : 0 <= t) (h1 : t <= 1) (hu : 0 <= u) (hv : 0 <= v) : 0 <= affQ u v t := by
 have e : affQ u v t = (1 - t) * u + t * v := by unfold affQ; grind
 have a1 := Rat.mul_nonneg (show 0 <= 1 - t by grind) hu;have a2 := Rat.mul_nonneg h0 hv;rw [e]; grind
theorem mul_neg_of {x y : Rat} (hx : 0 < x) (hy : y < 0) : x * y < 0 := by
 have := Rat.mul_pos hx (show 0 < -y by grind);grind
theorem mul_npos {x y : Rat} (hx : 0 <= x) (hy : y <= 0) : x * y <= 0 := by
 have := Rat.mul_nonneg hx (show 0 <= -y by grind);grind
theorem fold_sp {a b : PtQ} (f : Option (Rat × Rat) -> PtQ × PtQ -> Option (Rat × Rat)) (hf : ∀ o L s, ISp o (onB a b L) -> ISp (f o s) (onB a b (L ++ [s]))) : ∀ (L K : List (PtQ × PtQ)) (o : Option (Rat × Rat)), ISp o (onB a b K) -> ISp (L.foldl f o) (onB a b (K ++ L))
 | [], K, o, h => by rw [List.append_nil]; exact h
 | s :: L, K, o, h => by
   have := fold_sp f hf L (K ++ [s]) (f o s) (hf o K s h);rw [List.append_assoc] at this;exact this
theorem start_sp (a b : PtQ) : ISp (some (0, 1)) (onB a b []) := fun t => ⟨fun h => ⟨h, fun s hs => by cases hs⟩, fun h => h.1⟩
theorem withinN_sp (c0 c1 c2 a b : PtQ) : ISp (wNN c0 c1 c2 a b 3) (onB a b (sidesW c0 c1 c2)) := fold_sp (wStep a b) (fun _ _ _ h => wStep_sp h) _ [] _ (start_sp a b)
theorem withinF_cut (c0 c1 c2 a b : PtQ) : wFF c0 c1 c2 a b = cutO (wNN c0 c1 c2 a b 3) := rfl
abbrev TriP := PtQ × PtQ × PtQ
def atT (a b : PtQ) (t : Rat) : PtQ := (a.1 + t * (b.1 - a.1), a.2 + t * (b.2 - a.2))
theorem area_at (p q a b : PtQ) (t : Rat) : affQ (areaQ p q a) (areaQ p q b) t = areaQ p q (atT a b t) := by
 unfold affQ areaQ atT; dsimp only; grind
def inT (c : TriP) (x : PtQ) : Prop := 0 <= areaQ c.1 c.2.1 x /\ 0 <= areaQ c.2.1 c.2.2 x /\ 0 <= areaQ c.2.2 c.1 x
theorem onB_in (c : TriP) (a b : PtQ) (t : Rat) : onB a b (sidesW c.1 c.2.1 c.2.2) t ↔ inT c (atT a b t) := by
 unfold onB inT sidesW;constructor
 ·intro h
  have h0 := h (c.1, c.2.1) (by simp);have h1 := h (c.2.1, c.2.2) (by simp);have h2 := h (c.2.2, c.1) (by simp);rw [area_at] at h0 h1 h2;exact ⟨h0, h1, h2⟩
 ·rintro ⟨h0, h1, h2⟩ s hs
  simp only [List.mem_cons, List.not_mem_nil, or_false] at hs;rcases hs with rfl | rfl | rfl <;> rw [area_at]
  ·exact h0
  ·exact h1
  ·exact h2
def rotT (c : TriP) : TriP := (c.2.1, c.2.2, c.1)
theorem inT_rot (c : TriP) (x : PtQ) : inT (rotT c) x ↔ inT c x := by
 unfold inT rotT; exact ⟨fun h => ⟨h.2.2, h.1, h.2.1⟩, fun h => ⟨h.2.1, h.2.2, h.1⟩⟩
def dT (c : TriP) : Rat := areaQ c.1 c.2.1 c.2.2
theorem dT_rot (c : TriP) : dT (rotT c) = dT c := by unfold dT rotT areaQ; dsimp only; grind
def rots (c : TriP) : List TriP := [c, rotT c, rotT (rotT c)]
theorem rots_in {c r : TriP} (h : r ∈ rots c) : (∀ x, inT r x ↔ inT c x) /\ dT r = dT c := by
 unfold rots at h;simp only [List.mem_cons, List.not_mem_nil, or_false] at h;rcases h with rfl | rfl | rfl
 ·exact ⟨fun _ => Iff.rfl, rfl⟩
 ·exact ⟨inT_rot c, dT_rot c⟩
 ·exact ⟨fun x => (inT_rot _ x).trans (inT_rot c x), (dT_rot _).trans (dT_rot c)⟩
def sepB1 (A B : TriP) : Bool := decide (areaQ A.1 A.2.1 B.1 < 0) && (decide (areaQ A.1 A.2.1 B.2.1 < 0) && (decide (areaQ A.1 A.2.1 B.2.2 < 0) || (decide (B.2.2 = A.1) || decide (B.2.2 = A.2.1))))
theorem area_self1 (p q : PtQ) : areaQ p q p = 0 := by unfold areaQ; grind
theorem area_self2 (p q : PtQ) : areaQ p q q = 0 := by unfold areaQ; grind
def joinB1 (A B : TriP) : Bool := decide (B.1 = A.2.1) && decide (B.2.1 = A.1)
def apartB (A B : TriP) : Bool := (rots A).any fun A' => (rots B).any fun B' => sepB1 A' B' || joinB1 A' B'
theorem bary (p q x : PtQ) (B : TriP) : areaQ p q x * dT B = areaQ B.2.1 B.2.2 x * areaQ p q B.1 + areaQ B.2.2 B.1 x * areaQ p q B.2.1 + areaQ B.1 B.2.1 x * areaQ p q B.2.2 := by
 unfold dT areaQ; grind
theorem bary1 (x : PtQ) (B : TriP) : (x.1 - B.2.2.1) * dT B = areaQ B.2.1 B.2.2 x * (B.1.1 - B.2.2.1) + areaQ B.2.2 B.1 x * (B.2.1.1 - B.2.2.1) := by
 unfold dT areaQ; grind
theorem bary2 (x : PtQ) (B : TriP) : (x.2 - B.2.2.2) * dT B = areaQ B.2.1 B.2.2 x * (B.1.2 - B.2.2.2) + areaQ B.2.2 B.1 x * (B.2.1.2 - B.2.2.2) := by
 unfold dT areaQ; grind
theorem rzo {x d : Rat} (hd : 0 < d) (h : x * d = 0) : x = 0 := by
 rcases Rat.mul_eq_zero.1 h with h | h
 ·exact h
 ·rw [h] at hd; exact absurd hd Rat.lt_irrefl
theorem corner_eq {B : TriP} (hB : 0 < dT B) {x : PtQ} (h1 : areaQ B.2.1 B.2.2 x = 0) (h2 : areaQ B.2.2 B.1 x = 0) : x = B.2.2 := by
 have e1 := bary1 x B;have e2 := bary2 x B;rw [h1, h2] at e1 e2;have r1 := rzo hB (show (x.1 - B.2.2.1) * dT B = 0 by grind);have r2 := rzo hB (show (x.2 - B.2.2.2) * dT B = 0 by grind);exact Prod.ext (by grind) (by grind)
theorem sep_out {A B : TriP} (hB : 0 < dT B) (h : sepB1 A B = true) {x : PtQ} (hA : inT A x) (hx : inT B x) : x = B.2.2 /\ (B.2.2 = A.1 \/ B.2.2 = A.2.1) := by
 unfold sepB1 at h;simp only [Bool.and_eq_true, Bool.or_eq_true, decide_eq_true_eq] at h;obtain ⟨a0, a1, a2⟩ := h;obtain ⟨f0, f1, f2⟩ := hx;have a3 : areaQ A.1 A.2.1 B.2.2 <= 0 := by
  rcases a2 with h | h | h
  ·exact Rat.le_of_lt h
  ·rw [h, area_self1]; exact Rat.le_refl
  ·rw [h, area_self2]; exact Rat.le_refl
 have e := bary A.1 A.2.1 x B;have l := Rat.mul_nonneg hA.1 (Rat.le_of_lt hB);have n1 := mul_npos f1 (Rat.le_of_lt a0);have n2 := mul_npos f2 (Rat.le_of_lt a1);have n0 := mul_npos f0 a3;have z1 : areaQ B.2.1 B.2.2 x = 0 := by
  refine Rat.le_antisymm (Rat.not_lt.1 fun h => ?_) f1;have := mul_neg_of h a0;grind
 have z2 : areaQ B.2.2 B.1 x = 0 := by
  refine Rat.le_antisymm (Rat.not_lt.1 fun h => ?_) f2;have := mul_neg_of h a1;grind
 have hx := corner_eq hB z1 z2;refine ⟨hx, ?_⟩;rcases a2 with h | h
 ·rw [hx] at hA
  exact absurd hA.1 (Rat.not_le.2 h)
 ·exact h
theorem join_a (p q r s x : PtQ) : areaQ q s x * areaQ q p r - areaQ r q x * areaQ p q s = areaQ q r s * areaQ p q x := by
 unfold areaQ; grind
theorem join_b (p q r s x : PtQ) : areaQ s p x * areaQ q p r - areaQ p r x * areaQ p q s = areaQ p s r * areaQ p q x := by
 unfold areaQ; grind
theorem area_swap (p q x : PtQ) : areaQ q p x = - areaQ p q x := by unfold areaQ; grind
theorem sgn_eq {u v c d : Rat} (hc : 0 < c) (hd : 0 < d) (e : u * c = v * d) : 0 <= u ↔ 0 <= v := by
 constructor
 ·intro h
  refine Rat.not_lt.1 fun h2 => ?_;have a1 := Rat.mul_nonneg h (Rat.le_of_lt hc);have a2 := mul_neg_of hd h2;grind
 ·intro h
  refine Rat.not_lt.1 fun h2 => ?_;have a1 := Rat.mul_nonneg h (Rat.le_of_lt hd);have a2 := mul_neg_of hc h2;grind
theorem join_eq {A B : TriP} (hA : 0 < dT A) (hB : 0 < dT B) (h : joinB1 A B = true) {x : PtQ} (h0 : areaQ A.1 A.2.1 x = 0) : inT A x ↔ inT B x := by
 obtain ⟨p, q, s⟩ := A;obtain ⟨q', p', r⟩ := B;unfold joinB1 at h;simp only [Bool.and_eq_true, decide_eq_true_eq] at h;obtain ⟨rfl, rfl⟩ := h;unfold dT at hA hB;dsimp only at h0 hA hB;have ja := join_a p' q' r s x;have jb := join_b p' q' r s x;rw [h0] at ja jb;have s1 := sgn_eq (u := areaQ q' s x) (v := areaQ r q' x) hB hA (by grind);have s2 := sgn_eq (u := areaQ s p' x) (v := areaQ p' r x) hB hA (by grind);unfold inT;dsimp only;rw [area_swap p' q' x, h0, s1, s2];exact ⟨fun h => ⟨by decide, h.2.2, h.2.1⟩, fun h => ⟨Rat.le_refl, h.2.2, h.2.1⟩⟩
theorem apart_same {A B : TriP} (hA : 0 < dT A) (hB : 0 < dT B) (h : apartB A B = true) {a b : PtQ} (hab : a ≠ b) {t1 t2 : Rat} (ht : t1 < t2) (a1 : inT A (atT a b t1)) (a2 : inT A (atT a b t2)) (b1 : inT B (atT a b t1)) (b2 : inT B (atT a b t2)) (t : Rat) :
 inT A (atT a b t) ↔ inT B (atT a b t) := by
 unfold apartB at h;rw [List.any_eq_true] at h;obtain ⟨A', hA', h⟩ := h;rw [List.any_eq_true] at h;obtain ⟨B', hB', h⟩ := h;obtain ⟨iA, dA⟩ := rots_in hA';obtain ⟨iB, dB⟩ := rots_in hB';rw [<- dA] at hA;rw [<- dB] at hB;rw [<- iA] at a1 a2 ⊢;rw [<- iB] at b1 b2 ⊢;have ht0 : 0 < t2 - t1 := by grind
 rcases (by rw [Bool.or_eq_true] at h; exact h) with h | h
 ·have e1 := (sep_out hB h a1 b1).1
  have e2 := (sep_out hB h a2 b2).1;have e := e1.trans e2.symm;unfold atT at e;have x1 := congrArg Prod.fst e;have x2 := congrArg Prod.snd e;dsimp only at x1 x2;have z1 := rzo ht0 (show (b.1 - a.1) * (t2 - t1) = 0 by grind);have z2 := rzo ht0 (show (b.2 - a.2) * (t2 - t1) = 0 by grind);exact absurd (Prod.ext (by grind) (by grind)) hab
 ·have key : ∀ x, inT A' x -> inT B' x -> areaQ A'.1 A'.2.1 x = 0 := fun x h1 h2 => by
   have h3 := h;unfold joinB1 at h3;simp only [Bool.and_eq_true, decide_eq_true_eq] at h3;have h4 := h2.1;rw [h3.1, h3.2, area_swap] at h4;have h5 := h1.1;grind
  have k1 := key _ a1 b1;have k2 := key _ a2 b2;refine join_eq hA hB h ?_;rw [<- area_at] at k1 k2 ⊢;generalize areaQ A'.1 A'.2.1 a = u at *;generalize areaQ A'.1 A'.2.1 b = v at *;unfold affQ at *;have z := rzo ht0 (show (v - u) * (t2 - t1) = 0 by grind);rw [z] at *;grind
def backK (W : List SpanQ) (x : Rat) : Nat -> Nat
 | 0 => 0
 | k + 1 => if x < (W[k]?.getD (0, 0, 0)).2.1 then backK W x k else k + 1
def putS (W : List SpanQ) (s : SpanQ) : List SpanQ := W.take (backK W s.2.1 W.length) ++ s :: W.drop (backK W s.2.1 W.length)
def hasF (W : List SpanQ) (x : Rat) : Bool := W.any fun t => decide (t.2.1 = x)
def wantS (W : List SpanQ) (s : SpanQ) : List SpanQ := if hasF W s.2.1 then W else putS W s
def wantL (A : List SpanQ) : List SpanQ := A.foldl wantS []
theorem wantL_snoc (A : List SpanQ) (s : SpanQ) : wantL (A ++ [s]) = wantS (wantL A) s := by unfold wantL; rw [List.foldl_append]; rfl
theorem putS_mem (W : List SpanQ) (s r : SpanQ) : r ∈ putS W s ↔ r = s \/ r ∈ W := by
 unfold putS;generalize backK W s.2.1 W.length = k;rw [List.mem_append, List.mem_cons];have := List.take_append_drop k W;constructor
 ·rintro (h | rfl | h)
  ·exact .inr (List.mem_of_mem_take h)
  ·exact .inl rfl
  ·exact .inr (List.mem_of_mem_drop h)
 ·rintro (rfl | h)
  ·exact .inr (.inl rfl)
  ·rw [<- this, List.mem_append] at h
   rcases h with h | h
   ·exact .inl h
   ·exact .inr (.inr h)
theorem putS_len (W : List SpanQ) (s : SpanQ) : (putS W s).length = W.length + 1 := by
 have := congrArg List.length (List.take_append_drop (backK W s.2.1 W.length) W);rw [List.length_append] at this;unfold putS;rw [List.length_append, List.length_cons]; omega
theorem backK_le (W : List SpanQ) (x : Rat) (k : Nat) : backK W x k <= k := by
 induction k with
 | zero => exact Nat.le_refl _
 | succ k ih => unfold backK; split <;> omega
theorem backK_hi (W : List SpanQ) (x : Rat) (k : Nat) : ∀ j s, backK W x k <= j -> j < k -> W[j]? = some s -> x < s.2.1 := by
 induction k with
 | zero => intro j s _ h; omega
 | succ k ih =>
   intro j s h1 h2 h3;unfold backK at h1;split at h1
   ·rename_i h
    by_cases e : j = k
    ·subst e; rw [h3] at h; exact h
    ·exact ih j s h1 (by omega) h3
   ·omega
theorem backK_lo (W : List SpanQ) (x : Rat) (k : Nat) (hk : k <= W.length) : ∀ s, 0 < backK W x k -> W[backK W x k - 1]? = some s -> s.2.1 <= x := by
 induction k with
 | zero => intro s h; exact absurd h (by simp [backK])
 | succ k ih =>
   intro s h1 h2;unfold backK at h1 h2;split at h1
   ·rename_i h
    rw [if_pos h] at h2;exact ih (by omega) s h1 h2
   ·rename_i h
    rw [if_neg h, Nat.add_sub_cancel] at h2;rw [h2] at h;exact Rat.not_lt.1 h
def ltF (s t : SpanQ) : Prop := s.2.1 < t.2.1
theorem putS_pw (W : List SpanQ) (s : SpanQ) (h : W.Pairwise ltF) (hs : hasF W s.2.1 = false) : (putS W s).Pairwise ltF := by
 have hW := List.take_append_drop (backK W s.2.1 W.length) W;have hle := backK_le W s.2.1 W.length;have hhi := backK_hi W s.2.1 W.length;have hlo := backK_lo W s.2.1 W.length (Nat.le_refl _);unfold putS;generalize backK W s.2.1 W.length = k at *;have hne : ∀ r ∈ W, r.2.1 ≠ s.2.1 := fun r hr e => by
  unfold hasF at hs;rw [List.any_eq_false] at hs;exact hs r hr (decide_eq_true e)
 rw [List.pairwise_append, List.pairwise_cons];refine ⟨h.sublist (List.take_sublist _ _), ⟨fun r hr => ?_, h.sublist (List.drop_sublist _ _)⟩, fun r hr u hu => ?_⟩
 ·obtain ⟨j, hj⟩ := List.mem_iff_getElem?.1 hr
  rw [List.getElem?_drop] at hj;exact hhi _ r (by omega) (List.getElem?_eq_some_iff.1 hj).1 hj
 ·have hr1 : ltF r s := by
   obtain ⟨j, hj⟩ := List.mem_iff_getElem?.1 hr;rw [List.getElem?_take] at hj;split at hj
   ·rename_i hjk
    have hk1 : k - 1 < W.length := by omega
    have h1 := hlo _ (by omega) (List.getElem?_eq_getElem hk1);have h2 : r.2.1 <= W[k - 1].2.1 := by
     obtain ⟨hjl, rfl⟩ := List.getElem?_eq_some_iff.1 hj;by_cases e : j = k - 1
     ·subst e; exact Rat.le_refl
     ·exact Rat.le_of_lt (List.pairwise_iff_getElem.1 h j (k - 1) hjl hk1 (by omega))
    have h3 := hne r (List.mem_of_getElem? hj);unfold ltF;grind
   ·cases hj
  rcases List.mem_cons.1 hu with rfl | hu
  ·exact hr1
  ·obtain ⟨j, hj⟩ := List.mem_iff_getElem?.1 hu
   rw [List.getElem?_drop] at hj;have := hhi _ u (by omega) (List.getElem?_eq_some_iff.1 hj).1 hj;unfold ltF at *;grind
theorem wantL_pw (A : List SpanQ) : (wantL A).Pairwise ltF := by
 have key : ∀ (A W : List SpanQ), W.Pairwise ltF -> (A.foldl wantS W).Pairwise ltF := by
  intro A
  induction A with
  | nil => exact fun W h => h
  | cons s A ih =>
    intro W h;refine ih _ ?_;unfold wantS;split
    ·exact h
    ·rename_i h2
     exact putS_pw W s h (by simpa using h2)
 exact key A [] List.Pairwise.nil
theorem list_snoc {P : List SpanQ -> Prop} (h0 : P []) (h1 : ∀ A s, P A -> P (A ++ [s])) (A : List SpanQ) : P A := by
 have : ∀ n, ∀ A : List SpanQ, A.length = n -> P A := by
  intro n
  induction n with
  | zero => intro A h; rw [List.length_eq_zero_iff.1 h]; exact h0
  | succ n ih =>
    intro A h;have hne : A ≠ [] := by intro e; rw [e] at h; simp at h
    rw [<- List.dropLast_concat_getLast hne];exact h1 _ _ (ih _ (by rw [List.length_dropLast]; omega))
 exact this _ A rfl
def firF (A : List SpanQ) (x : Rat) : Option SpanQ := A.find? fun t => decide (t.2.1 = x)
theorem firF_snoc (A : List SpanQ) (r : SpanQ) (x : Rat) : firF (A ++ [r]) x = match firF A x with | some t => some t | none => if r.2.1 = x then some r else none := by
 unfold firF;rw [List.find?_append];cases A.find? fun t => decide (t.2.1 = x) with
 | some t => rfl
 | none =>
   by_cases e : r.2.1 = x
   ·simp [e]
   ·simp [e]
theorem firF_x {A : List SpanQ} {x : Rat} {s : SpanQ} (h : firF A x = some s) : s.2.1 = x := by
 have := List.find?_some h;exact of_decide_eq_true this
theorem wLm (A : List SpanQ) : ∀ s, s ∈ wantL A ↔ firF A s.2.1 = some s := by
 refine list_snoc (P := fun A => ∀ s, s ∈ wantL A ↔ firF A s.2.1 = some s) (fun s => by simp [wantL, firF]) (fun A r ih s => ?_) A;rw [wantL_snoc, firF_snoc];unfold wantS;have hA : hasF (wantL A) r.2.1 = true ↔ ∃ t, firF A r.2.1 = some t := by
  unfold hasF;rw [List.any_eq_true];constructor
  ·rintro ⟨t, ht, e⟩
   rw [ih] at ht;rw [of_decide_eq_true e] at ht;exact ⟨t, ht⟩
  ·rintro ⟨t, ht⟩
   exact ⟨t, (ih t).2 (by rw [firF_x ht]; exact ht), decide_eq_true (firF_x ht)⟩
 split
 ·rename_i h
  obtain ⟨t, ht⟩ := hA.1 h;rw [ih];by_cases e : s.2.1 = r.2.1
  ·rw [e, ht]
  ·cases hf : firF A s.2.1 with
   | some u => rfl
   | none => dsimp only; rw [if_neg (fun e2 => e e2.symm)]
 ·rename_i h
  have hn : firF A r.2.1 = none := by
   cases hf : firF A r.2.1 with
   | none => rfl
   | some t => exact absurd (hA.2 ⟨t, hf⟩) h
  rw [putS_mem, ih];by_cases e : s.2.1 = r.2.1
  ·rw [e, hn]
   dsimp only;rw [if_pos rfl];constructor
   ·rintro (rfl | h)
    ·rfl
    ·cases h
   ·intro h; exact .inl (Option.some.inj h).symm
  ·cases hf : firF A s.2.1 with
   | some u =>
     dsimp only;constructor
     ·rintro (rfl | h)
      ·exact absurd rfl e
      ·exact h
     ·exact fun h => .inr h
   | none =>
     dsimp only;rw [if_neg (fun e2 => e e2.symm)];constructor
     ·rintro (rfl | h)
      ·exact absurd rfl e
      ·exact h
     ·exact fun h => .inr h
theorem ltF_unique {a b : List SpanQ} (ha : a.Pairwise ltF) (hb : b.Pairwise ltF) (h : ∀ q, q ∈ a ↔ q ∈ b) : a = b := by
 have nd : ∀ {l : List SpanQ}, l.Pairwise ltF -> l.Nodup := fun hl => hl.imp (fun h e => by rw [e] at h; exact Rat.lt_irrefl h)
 exact ((List.perm_ext_iff_of_nodup (nd ha) (nd hb)).2 h).eq_of_pairwise (fun x y _ _ h1 h2 => absurd (rat_lt_trans h1 h2) Rat.lt_irrefl) ha hb
structure OKs (A : List SpanQ) : Prop where
 pos : ∀ s ∈ A, s.2.1 < s.2.2
 idx : ∀ s ∈ A, ∀ t ∈ A, s.1 = t.1 -> s = t
 dis : ∀ s ∈ A, ∀ t ∈ A, s.2 = t.2 \/ s.2.2 <= t.2.1 \/ t.2.2 <= s.2.1
theorem endsS_mem {A : List SpanQ} {x : Rat} : x ∈ endsS A ↔ ∃ s ∈ A, x = s.2.1 \/ x = s.2.2 := by
 unfold endsS;rw [List.mem_flatMap];exact ⟨fun ⟨s, h1, h2⟩ => ⟨s, h1, by simpa using h2⟩, fun ⟨s, h1, h2⟩ => ⟨s, h1, by simpa using h2⟩⟩
theorem find_congr {p q : SpanQ -> Bool} : ∀ {A : List SpanQ}, (∀ t ∈ A, p t = q t) -> A.find? p = A.find? q
 | [], _ => rfl
 | t :: A, h => by
   rw [List.find?_cons, List.find?_cons, h t (by simp), find_congr fun u hu => h u (by simp [hu])]
theorem OKs.tight {A : List SpanQ} (h : OKs A) {s t : SpanQ} (hs : s ∈ A) (ht : t ∈ A) {x : Rat} (hx : x = t.2.1 \/ x = t.2.2) (h1 : s.2.1 <= x) (h2 : x <= s.2.2) : x = s.2.1 \/ x = s.2.2 := by
 have p1 := h.pos s hs;have p2 := h.pos t ht;rcases h.dis s hs t ht with e | e | e
 ·rw [e]; exact hx
 ·rcases hx with rfl | rfl <;> grind
 ·rcases hx with rfl | rfl <;> grind
theorem OKs.cover {A : List SpanQ} (h : OKs A) {s : SpanQ} (hs : s ∈ A) {x y : Rat} (hx : x ∈ endsS A) (hy : y ∈ endsS A) (hxy : x < y) (hc : ca0 x y s = true) : s.2.1 = x /\ s.2.2 = y := by
 obtain ⟨t, ht, hx⟩ := endsS_mem.1 hx;obtain ⟨u, hu, hy⟩ := endsS_mem.1 hy;unfold ca0 at hc;simp only [Bool.and_eq_true, decide_eq_true_eq] at hc;have a := h.tight hs ht hx hc.1 (by grind);have b := h.tight hs hu hy (by grind) hc.2;grind
theorem OKs.find {A : List SpanQ} (h : OKs A) {s : SpanQ} (hs : s ∈ A) {x y : Rat} (hx : x ∈ endsS A) (hy : y ∈ endsS A) (hxy : x < y) (hc : ca0 x y s = true) : A.find? (ca0 x y) = firF A x := by
 refine find_congr fun t ht => ?_;have hsx := h.cover hs hx hy hxy hc;have p1 := h.pos s hs;have p2 := h.pos t ht;by_cases e : t.2.1 = x
 ·rw [decide_eq_true e]
  unfold ca0;simp only [Bool.and_eq_true, decide_eq_true_eq];rcases h.dis s hs t ht with e2 | e2 | e2
  ·rw [<- e2]; grind
  ·grind
  ·grind
 ·rw [decide_eq_false e]
  refine Bool.eq_false_iff.2 fun hc2 => e ?_;exact (h.cover ht hx hy hxy hc2).1
theorem findK_some {A : List SpanQ} {x y : Rat} {k : Nat} (h : findK x y A = some k) : ∃ s, A[k]? = some s /\ A.find? (ca0 x y) = some s /\ ca0 x y s = true := by
 unfold findK at h;obtain ⟨hk, hc, hn⟩ := List.findIdx?_eq_some_iff_getElem.1 h;refine ⟨A[k], List.getElem?_eq_getElem hk, ?_, hc⟩;rw [List.find?_eq_some_iff_getElem];exact ⟨hc, k, hk, rfl, fun j hj => by have := hn j hj; simpa using this⟩
theorem sorted_next {E : List Rat} (hE : E.Pairwise (· < ·)) {i j : Nat} {x y : Rat} (hx : E[i]? = some x) (hy : E[j]? = some y) (h : x < y) : i < j := by
 obtain ⟨hi, rfl⟩ := List.getElem?_eq_some_iff.1 hx;obtain ⟨hj, rfl⟩ := List.getElem?_eq_some_iff.1 hy;rcases Nat.lt_trichotomy i j with h1 | h1 | h1
 ·exact h1
 ·subst h1; exact absurd h Rat.lt_irrefl
 ·exact absurd (rat_lt_trans h (List.pairwise_iff_getElem.1 hE j i hj hi h1)) Rat.lt_irrefl
theorem joinN_inv {A : List SpanQ} (h : OKs A) (i : Nat) (hi : i + 1 <= (sortD (endsS A)).length) :
 (joinN A (sortD (endsS A)) i).Pairwise ltF /\ (∀ s, s ∈ joinN A (sortD (endsS A)) i ↔ ∃ j, j < i /\ (sortD (endsS A))[j]? = some s.2.1 /\ (sortD (endsS A))[j + 1]? = some s.2.2 /\ firF A s.2.1 = some s) /\
 (∀ s ∈ joinN A (sortD (endsS A)) i, s.2.2 <= (sortD (endsS A))[i]?.getD 0) := by
 have hE := sortD_pw (endsS A);have hM := sortD_mem (endsS A);generalize sortD (endsS A) = E at *
 induction i with
 | zero =>
   have e0 : joinN A E 0 = [] := rfl;rw [e0];refine ⟨List.Pairwise.nil, fun s => ⟨fun hs => absurd hs (List.not_mem_nil), ?_⟩, fun s hs => absurd hs (List.not_mem_nil)⟩;rintro ⟨j, hj, _⟩;exact absurd hj (Nat.not_lt_zero _)
 | succ i ih =>
   obtain ⟨i1, i2, i3⟩ := ih (by omega);have hi0 : i < E.length := by omega
   have hi1 : i + 1 < E.length := by omega
   have hx : E[i]? = some E[i] := List.getElem?_eq_getElem hi0;have hy : E[i + 1]? = some E[i + 1] := List.getElem?_eq_getElem hi1;have hxy : E[i] < E[i + 1] := List.pairwise_iff_getElem.1 hE i (i + 1) hi0 hi1 (by omega);have mx := (hM _).1 (List.getElem_mem hi0);have my := (hM _).1 (List.getElem_mem hi1);have hJ : joinN A E (i + 1) = stepO A (joinN A E i) E[i] E[i + 1] := by
    conv => lhs; unfold joinN
    rw [hx, hy]; rfl
   rw [hx] at i3;rw [hy];change ∀ s ∈ joinN A E i, s.2.2 <= E[i] at i3;rw [hJ];generalize E[i] = x at *;generalize E[i + 1] = y at *;show _ /\ _ /\ ∀ s : SpanQ, s ∈ _ -> s.2.2 <= y;have inA : ∀ s ∈ joinN A E i, s ∈ A := fun s hs => by
    obtain ⟨j, _, _, _, hf⟩ := (i2 s).1 hs;exact List.mem_of_find?_eq_some hf
   cases hk : findK x y A with
   | none =>
     rw [stepO_none hk];refine ⟨i1, fun s => (i2 s).trans ⟨fun ⟨j, h1, h2⟩ => ⟨j, by omega, h2⟩, fun ⟨j, h1, h2, h3, h4⟩ => ?_⟩, fun s hs => Rat.le_trans (i3 s hs) (Rat.le_of_lt hxy)⟩;by_cases e : j = i
     ·subst e
      rw [hx] at h2;rw [hy] at h3;cases h2;cases h3;exfalso;unfold findK at hk;have := List.findIdx?_eq_none_iff.1 hk s (List.mem_of_find?_eq_some h4);unfold ca0 at this;simp at this
     ·exact ⟨j, by omega, h2, h3, h4⟩
   | some k =>
     obtain ⟨s0, hs0, hf0, hc0⟩ := findK_some hk;have m0 := List.mem_of_getElem? hs0;have hcov := h.cover m0 mx my hxy hc0;have hfir : firF A x = some s0 := (h.find m0 mx my hxy hc0).symm.trans hf0;have hs : (s0.1, x, y) = s0 := by rw [<- hcov.1, <- hcov.2]
     have hst : stepO A (joinN A E i) x y = joinN A E i ++ [s0] := by
      by_cases hL : joinN A E i = []
      ·rw [hL, stepO_nil hk hs0, hs]; rfl
      ·obtain ⟨L, l, hL⟩ : ∃ L l, joinN A E i = L ++ [l] := ⟨_, _, (List.dropLast_concat_getLast hL).symm⟩
       have hl : l ∈ joinN A E i := by rw [hL]; simp
       have hal := inA l hl;rw [hL, stepO_new hk hs0 ?_, hs];rintro ⟨e1, e2⟩;have e3 := h.idx l hal s0 m0 e1;rw [e3, hcov.2] at e2;rw [e2] at hxy;exact Rat.lt_irrefl hxy
     rw [hst];refine ⟨?_, fun s => ?_, fun s hs => ?_⟩
     ·rw [List.pairwise_append]
      refine ⟨i1, List.pairwise_singleton _ _, fun r hr u hu => ?_⟩;rw [List.mem_singleton] at hu;subst hu;have := i3 r hr;have p := h.pos r (inA r hr);unfold ltF;rw [hcov.1];grind
     ·rw [List.mem_append, List.mem_singleton, i2]
      constructor
      ·rintro (⟨j, h1, h2⟩ | rfl)
       ·exact ⟨j, by omega, h2⟩
       ·exact ⟨i, by omega, by rw [hcov.1]; exact hx, by rw [hcov.2]; exact hy, by rw [hcov.1]; exact hfir⟩
      ·rintro ⟨j, h1, h2, h3, h4⟩
       by_cases e : j = i
       ·subst e
        rw [hx] at h2;injection h2 with h2
        rw [<- h2, hfir] at h4;exact .inr (Option.some.inj h4).symm
       ·exact .inl ⟨j, by omega, h2, h3, h4⟩
     ·rcases List.mem_append.1 hs with hs | hs
      ·exact Rat.le_trans (i3 s hs) (Rat.le_of_lt hxy)
      ·rw [List.mem_singleton] at hs
       subst hs;rw [hcov.2]; exact Rat.le_refl
theorem OKs.next {A : List SpanQ} (h : OKs A) {s : SpanQ} (hs : s ∈ A) : ∃ j, (sortD (endsS A))[j]? = some s.2.1 /\ (sortD (endsS A))[j + 1]? = some s.2.2 := by
 have hE := sortD_pw (endsS A);have hM := sortD_mem (endsS A);generalize sortD (endsS A) = E at *;obtain ⟨i, hi⟩ := List.mem_iff_getElem?.1 ((hM s.2.1).2 (endsS_mem.2 ⟨s, hs, .inl rfl⟩));obtain ⟨j, hj⟩ := List.mem_iff_getElem?.1 ((hM s.2.2).2 (endsS_mem.2 ⟨s, hs, .inr rfl⟩));have hij := sorted_next hE hi hj (h.pos s hs);refine ⟨i, hi, ?_⟩;by_cases e : j = i + 1
 ·rw [<- e]; exact hj
 ·exfalso
  obtain ⟨hil, ei⟩ := List.getElem?_eq_some_iff.1 hi;obtain ⟨hjl, ej⟩ := List.getElem?_eq_some_iff.1 hj;have hm : i + 1 < E.length := by omega
  have l1 := List.pairwise_iff_getElem.1 hE i (i + 1) hil hm (by omega);have l2 := List.pairwise_iff_getElem.1 hE (i + 1) j hm hjl (by omega);rw [ei] at l1;rw [ej] at l2;obtain ⟨t, ht, hx⟩ := endsS_mem.1 ((hM _).1 (List.getElem_mem hm));rcases h.tight hs ht hx (Rat.le_of_lt l1) (Rat.le_of_lt l2) with e1 | e1
  ·rw [e1] at l1; exact Rat.lt_irrefl l1
  ·rw [e1] at l2; exact Rat.lt_irrefl l2
theorem alongS_want {A : List SpanQ} (h : OKs A) : alongS A = wantL A := by
 unfold alongS;by_cases hl : (sortD (endsS A)).length = 0
 ·have hA : A = [] := by
   cases A with
   | nil => rfl
   | cons s A =>
     obtain ⟨j, hj, _⟩ := h.next (s := s) (by simp);have := (List.getElem?_eq_some_iff.1 hj).1;omega
  subst hA;rfl
 ·obtain ⟨i1, i2, i3⟩ := joinN_inv h ((sortD (endsS A)).length - 1) (by omega)
  refine ltF_unique i1 (wantL_pw A) fun s => ?_;rw [i2, wLm];constructor
  ·rintro ⟨j, _, _, _, hf⟩; exact hf
  ·intro hf
   obtain ⟨j, h1, h2⟩ := h.next (List.mem_of_find?_eq_some hf);have := (List.getElem?_eq_some_iff.1 h2).1;exact ⟨j, by omega, h1, h2, hf⟩
def triP (P : List PtQ) (t : Tri) : TriP := (ptI P t.1, ptI P t.2.1, ptI P t.2.2)
def meshSep (P : List PtQ) (T : List Tri) : Bool := (List.range T.length).all fun j => (List.range j).all fun i => apartB (triP P (T[i]?.getD (0, 0, 0))) (triP P (T[j]?.getD (0, 0, 0))) || apartB (triP P (T[j]?.getD (0, 0, 0))) (triP P (T[i]?.getD (0, 0, 0)))
theorem spanAt_iff {P : List PtQ} {T : List Tri} {a b : PtQ} {i : Nat} {s : SpanQ} (h : s ∈ spanAt P T a b i) : s.1 = i /\ ∃ t, T[i]? = some t /\ wFF (ptI P t.1) (ptI P t.2.1) (ptI P t.2.2) a b = some s.2 := by
 unfold spanAt at h;split at h
 ·cases h
 ·rename_i tr htr
  split at h
  ·cases h
  ·rename_i l hl
   rw [List.mem_singleton] at h;subst h;exact ⟨rfl, tr, htr, hl⟩
theorem sNi {P : List PtQ} {T : List Tri} {a b : PtQ} {n : Nat} {s : SpanQ} (h : s ∈ sNN P T a b n) : ∃ t, T[s.1]? = some t /\ wFF (ptI P t.1) (ptI P t.2.1) (ptI P t.2.2) a b = some s.2 := by
 unfold sNN at h;rw [List.mem_flatMap] at h;obtain ⟨i, _, h⟩ := h;obtain ⟨rfl, h2⟩ := spanAt_iff h;exact h2
theorem span_in {c : TriP} {a b : PtQ} {l : Rat × Rat} (h : wFF c.1 c.2.1 c.2.2 a b = some l) : l.1 < l.2 /\ ∀ t, (l.1 <= t /\ t <= l.2) ↔ ((0 <= t /\ t <= 1) /\ inT c (atT a b t)) := by
 rw [withinF_cut] at h;rcases (withinN_sp c.1 c.2.1 c.2.2 a b).cut with ⟨l', h1, h2, h3⟩ | ⟨h1, _⟩
 ·rw [h1] at h
  cases h;exact ⟨h2, fun t => by rw [h3 t, onB_in]⟩
 ·rw [h1] at h; cases h
theorem within_congr {A B : TriP} {a b : PtQ} (h : ∀ t, inT A (atT a b t) ↔ inT B (atT a b t)) : wFF A.1 A.2.1 A.2.2 a b = wFF B.1 B.2.1 B.2.2 a b := by
 rw [withinF_cut, withinF_cut];exact cut_congr (withinN_sp _ _ _ a b) (withinN_sp _ _ _ a b) fun t _ _ => by rw [onB_in, onB_in]; exact h t
theorem spans_ok {P : List PtQ} {T : List Tri} (hd : ∀ t ∈ T, 0 < dT (triP P t)) (hs : meshSep P T = true) {a b : PtQ} (hab : a ≠ b) (n : Nat) : OKs (sNN P T a b n) := by
 refine ⟨fun s h => ?_, fun s h t h' e => ?_, fun s h u h' => ?_⟩
 ·obtain ⟨t, _, ht⟩ := sNi h
  exact (span_in (c := triP P t) ht).1
 ·obtain ⟨t1, h1, h2⟩ := sNi h
  obtain ⟨t2, h3, h4⟩ := sNi h';rw [e, h3] at h1;cases h1;rw [h4] at h2;exact Prod.ext e (Option.some.inj h2).symm
 ·obtain ⟨t1, h1, h2⟩ := sNi h
  obtain ⟨t2, h3, h4⟩ := sNi h';by_cases e : s.1 = u.1
  ·rw [e, h3] at h1
   cases h1;rw [h4] at h2;exact .inl (Option.some.inj h2).symm
  ·by_cases hov : s.2.2 <= u.2.1 \/ u.2.2 <= s.2.1
   ·exact .inr hov
   ·refine .inl ?_
    obtain ⟨p1, q1⟩ := span_in (c := triP P t1) h2;obtain ⟨p2, q2⟩ := span_in (c := triP P t2) h4;have d1 := hd t1 (List.mem_of_getElem? h1);have d2 := hd t2 (List.mem_of_getElem? h3);have ho1 : u.2.1 < s.2.2 := Rat.not_le.1 fun h => hov (.inl h);have ho2 : s.2.1 < u.2.2 := Rat.not_le.1 fun h => hov (.inr h);obtain ⟨x, hx⟩ : ∃ x, x = maxQ s.2.1 u.2.1 := ⟨_, rfl⟩;obtain ⟨y, hy⟩ : ∃ y, y = minQ s.2.2 u.2.2 := ⟨_, rfl⟩;have ex : s.2.1 <= x /\ u.2.1 <= x := by rw [hx]; exact (maxQ_le _ _ _).1 Rat.le_refl
    have ey : y <= s.2.2 /\ y <= u.2.2 := by rw [hy]; exact (le_minQ _ _ _).1 Rat.le_refl
    have exy : x < y := by
     rw [hx, hy];unfold maxQ minQ;split <;> split <;> grind
    have a1 := ((q1 x).1 ⟨ex.1, by grind⟩).2;have a2 := ((q1 y).1 ⟨by grind, ey.1⟩).2;have b1 := ((q2 x).1 ⟨ex.2, by grind⟩).2;have b2 := ((q2 y).1 ⟨by grind, ey.2⟩).2;have hap : apartB (triP P t1) (triP P t2) = true \/ apartB (triP P t2) (triP P t1) = true := by
     have l1 := (List.getElem?_eq_some_iff.1 h1).1;have l2 := (List.getElem?_eq_some_iff.1 h3).1;unfold meshSep at hs;rw [List.all_eq_true] at hs;rcases Nat.lt_or_gt_of_ne e with hlt | hlt
     ·have := List.all_eq_true.1 (hs u.1 (List.mem_range.2 l2)) s.1 (List.mem_range.2 hlt)
      rw [h1, h3, Bool.or_eq_true] at this;exact this
     ·have := List.all_eq_true.1 (hs s.1 (List.mem_range.2 l1)) u.1 (List.mem_range.2 hlt)
      rw [h1, h3, Bool.or_eq_true] at this;exact this.symm
    have hall : ∀ t, inT (triP P t1) (atT a b t) ↔ inT (triP P t2) (atT a b t) := by
     rcases hap with hap | hap
     ·exact apart_same d1 d2 hap hab exy a1 a2 b1 b2
     ·exact fun t => (apart_same d2 d1 hap hab exy b1 b2 a1 a2 t).symm
    have := within_congr hall;unfold triP at this;dsimp only at this;rw [h2, h4] at this;exact Option.some.inj this
def movT (s t d : Rat) (c : TriP) : TriP := (moveP s t d c.1, moveP s t d c.2.1, moveP s t d c.2.2)
theorem neg_scale {k x : Rat} (hk : 0 < k) : k * x < 0 ↔ x < 0 := by
 constructor
 ·intro h
  refine Rat.not_le.1 fun h2 => ?_;have := Rat.mul_nonneg (Rat.le_of_lt hk) h2;grind
 ·exact fun h => mul_neg_of hk h
theorem apartB_move (s t d : Rat) (hd : 0 < d) {A B : TriP} (h : apartB A B = true) : apartB (movT s t d A) (movT s t d B) = true := by
 have hdd := Rat.mul_pos hd hd;have hr : ∀ {c r : TriP}, r ∈ rots c -> movT s t d r ∈ rots (movT s t d c) := fun {c r} hr => by
  unfold rots at *;simp only [List.mem_cons, List.not_mem_nil, or_false] at *;rcases hr with rfl | rfl | rfl
  ·exact .inl rfl
  ·exact .inr (.inl rfl)
  ·exact .inr (.inr rfl)
 unfold apartB at *;rw [List.any_eq_true] at *;obtain ⟨A', hA', h⟩ := h;rw [List.any_eq_true] at h;obtain ⟨B', hB', h⟩ := h;refine ⟨_, hr hA', ?_⟩;rw [List.any_eq_true];refine ⟨_, hr hB', ?_⟩;rw [Bool.or_eq_true] at h ⊢;rcases h with h | h
 ·refine .inl ?_
  unfold sepB1 at *;simp only [Bool.and_eq_true, Bool.or_eq_true, decide_eq_true_eq] at *;unfold movT;dsimp only;rw [areaQ_move, areaQ_move, areaQ_move, neg_scale hdd, neg_scale hdd, neg_scale hdd];exact ⟨h.1, h.2.1, h.2.2.imp id (fun x => x.imp (fun e => by rw [e]) (fun e => by rw [e]))⟩
 ·refine .inr ?_
  unfold joinB1 at *;simp only [Bool.and_eq_true, decide_eq_true_eq] at *;unfold movT;dsimp only;rw [h.1, h.2];exact ⟨rfl, rfl⟩
theorem triP_move (s t d : Rat) (P : List PtQ) (T : List Tri) (hx : ∀ t ∈ T, ∀ x ∈ idxOf t, 0 <= x /\ x < (P.length : Int)) (tr : Tri) (htr : tr ∈ T) : triP (P.map (moveP s t d)) tr = movT s t d (triP P tr) := by
 have i0 := hx tr htr tr.1 (by simp [idxOf]);have i1 := hx tr htr tr.2.1 (by simp [idxOf]);have i2 := hx tr htr tr.2.2 (by simp [idxOf]);unfold triP movT ptI;rw [getD_move _ _ _ _ _ (by omega), getD_move _ _ _ _ _ (by omega), getD_move _ _ _ _ _ (by omega)]
theorem meshSep_move (s t d : Rat) (hd : 0 < d) (P : List PtQ) (T : List Tri) (hx : ∀ t ∈ T, ∀ x ∈ idxOf t, 0 <= x /\ x < (P.length : Int)) (h : meshSep P T = true) : meshSep (P.map (moveP s t d)) T = true := by
 unfold meshSep at *;rw [List.all_eq_true] at *;intro j hj;have h1 := h j hj;rw [List.all_eq_true] at *;intro i hi;have h2 := h1 i hi;have hjl : j < T.length := List.mem_range.1 hj;have hil : i < T.length := by have := List.mem_range.1 hi; omega
 rw [List.getElem?_eq_getElem hil, List.getElem?_eq_getElem hjl] at *;simp only [Option.getD_some] at *;rw [triP_move s t d P T hx _ (List.getElem_mem hil), triP_move s t d P T hx _ (List.getElem_mem hjl)];rw [Bool.or_eq_true] at *;exact h2.imp (apartB_move s t d hd) (apartB_move s t d hd)
theorem shape_sep (k : Nat) : meshSep (sQQ k) (sTT k) = true := by
 unfold sQQ sb0 sTT;split <;> decide +kernel
theorem sheetP_move (k : Nat) (s0 s1 : Int) (half : Bool) : sPP k s0 s1 half = (sQQ k).map (moveP (s0.tmod 8 : Int) (s1.tmod 8 : Int) (1 / (halfD half : Rat))) := by
 unfold sPP sQQ;rw [List.map_map];refine List.map_congr_left fun p _ => ?_;show (_, _) = moveP _ _ _ _;unfold moveP;rw [pQm, pQm]
theorem sheet_sep (k : Nat) (s0 s1 : Int) (half : Bool) : meshSep (sPP k s0 s1 half) (sTT k) = true := by
 have hx := (sheet_ok k s0 s1 half).idx;rw [sheetP_length] at hx;rw [sheetP_move];exact meshSep_move _ _ _ (by cases half <;> decide +kernel) _ _ (by rw [show (sQQ k).length = (sb0 k).length by simp [sQQ]]; exact hx) (shape_sep k)
theorem turnZ_pos {a b c : PtQ} (h : 0 < turnZ a b c) : 0 < areaQ a b c := by
 unfold turnZ at h;rw [sign_if] at h;refine Rat.not_le.1 fun h2 => ?_;by_cases h3 : areaQ a b c < 0
 ·rw [if_pos h3] at h; omega
 ·rw [if_neg h3, if_neg (Rat.not_lt.2 h2)] at h; omega
theorem mesh_dT {P : List PtQ} {T : List Tri} {k : Nat} (hm : MeshOK P T k) : ∀ t ∈ T, 0 < dT (triP P t) := fun t ht => turnZ_pos (hm.turns t ht)
theorem sheet_along (k : Nat) (s0 s1 : Int) (half : Bool) {a b : PtQ} (hab : a ≠ b) :
 alongL (sPP k s0 s1 half) (sTT k) a b = wantL (sNN (sPP k s0 s1 half) (sTT k) a b (sTT k).length) :=
 alongS_want (spans_ok (mesh_dT (sheet_ok k s0 s1 half)) (sheet_sep k s0 s1 half) hab _)
theorem atT_flip (a b : PtQ) (t : Rat) : atT b a t = atT a b (1 - t) := by
 unfold atT;exact Prod.ext (by dsimp only; grind) (by dsimp only; grind)
def flipR (l : Rat × Rat) : Rat × Rat := (1 - l.2, 1 - l.1)
theorem within_sp (c : TriP) (a b : PtQ) : (∃ l, wFF c.1 c.2.1 c.2.2 a b = some l /\ l.1 < l.2 /\ ∀ t, (l.1 <= t /\ t <= l.2) ↔ ((0 <= t /\ t <= 1) /\ inT c (atT a b t))) \/
 (wFF c.1 c.2.1 c.2.2 a b = none /\ ∀ t t', t < t' -> (0 <= t /\ t <= 1) -> (0 <= t' /\ t' <= 1) -> inT c (atT a b t) -> inT c (atT a b t') -> False) := by
 rw [withinF_cut];rcases (withinN_sp c.1 c.2.1 c.2.2 a b).cut with ⟨l, h1, h2, h3⟩ | ⟨h1, h2⟩
 ·exact .inl ⟨l, h1, h2, fun t => by rw [h3 t, onB_in]⟩
 ·exact .inr ⟨h1, fun t t' h3 h4 h5 h6 h7 => h2 t t' h3 h4 h5 ((onB_in c a b t).2 h6) ((onB_in c a b t').2 h7)⟩
theorem within_flip (c : TriP) (a b : PtQ) : wFF c.1 c.2.1 c.2.2 b a = (wFF c.1 c.2.1 c.2.2 a b).map flipR := by
 rcases within_sp c a b with ⟨l, h1, h2, h3⟩ | ⟨h1, h2⟩ <;> rcases within_sp c b a with ⟨l', g1, g2, g3⟩ | ⟨g1, g2⟩
 ·rw [h1, g1]
  have := iv_eq g2 (show 1 - l.2 < 1 - l.1 by grind) fun t => by
   rw [g3 t, atT_flip];have := h3 (1 - t);constructor
   ·intro x
    have := this.2 ⟨by grind, x.2⟩;grind
   ·intro x
    have := this.1 ⟨by grind, by grind⟩;exact ⟨by grind, this.2⟩
  show some l' = some (flipR l);rw [show l' = flipR l from Prod.ext this.1 this.2]
 ·exfalso
  have k1 := (h3 l.1).1 ⟨Rat.le_refl, Rat.le_of_lt h2⟩;have k2 := (h3 l.2).1 ⟨Rat.le_of_lt h2, Rat.le_refl⟩;refine g2 (1 - l.2) (1 - l.1) (by grind) (by grind) (by grind) ?_ ?_
  ·rw [atT_flip, show 1 - (1 - l.2) = l.2 by grind]; exact k2.2
  ·rw [atT_flip, show 1 - (1 - l.1) = l.1 by grind]; exact k1.2
 ·exfalso
  have k1 := (g3 l'.1).1 ⟨Rat.le_refl, Rat.le_of_lt g2⟩;have k2 := (g3 l'.2).1 ⟨Rat.le_of_lt g2, Rat.le_refl⟩;rw [atT_flip] at k1 k2;exact h2 (1 - l'.2) (1 - l'.1) (by grind) (by grind) (by grind) k2.2 k1.2
 ·rw [h1, g1]; rfl
def flipS (s : SpanQ) : SpanQ := (s.1, flipR s.2)
theorem flipS_flip (s : SpanQ) : flipS (flipS s) = s := by
 unfold flipS flipR;refine Prod.ext rfl (Prod.ext ?_ ?_) <;> (dsimp only; grind)
theorem spanAt_flip (P : List PtQ) (T : List Tri) (a b : PtQ) (i : Nat) : spanAt P T b a i = (spanAt P T a b i).map flipS := by
 unfold spanAt;cases T[i]? with
 | none => rfl
 | some tr =>
   dsimp only;have := within_flip (triP P tr) a b;unfold triP at this;dsimp only at this;rw [this];cases wFF (ptI P tr.1) (ptI P tr.2.1) (ptI P tr.2.2) a b with
   | none => rfl
   | some l => rfl
theorem spansN_flip (P : List PtQ) (T : List Tri) (a b : PtQ) (n : Nat) : sNN P T b a n = (sNN P T a b n).map flipS := by
 induction n with
 | zero => rfl
 | succ n ih => rw [sNs, sNs, List.map_append, ih, spanAt_flip]
theorem OKs.to_from {A : List SpanQ} (h : OKs A) {s t : SpanQ} (hs : s ∈ A) (ht : t ∈ A) : s.2.2 = t.2.2 ↔ s.2.1 = t.2.1 := by
 have p1 := h.pos s hs;have p2 := h.pos t ht;rcases h.dis s hs t ht with e | e | e
 ·rw [e]; exact ⟨fun _ => rfl, fun _ => rfl⟩
 ·constructor <;> intro h2 <;> grind
 ·constructor <;> intro h2 <;> grind
theorem firF_flip {A : List SpanQ} (h : OKs A) {s : SpanQ} (hs : s ∈ A) : firF (A.map flipS) (1 - s.2.2) = (firF A s.2.1).map flipS := by
 unfold firF;rw [List.find?_map];congr 1;refine find_congr fun t ht => ?_;show decide (1 - t.2.2 = 1 - s.2.2) = decide (t.2.1 = s.2.1);refine decide_eq_decide.2 ?_;rw [<- h.to_from ht hs];constructor <;> intro h2 <;> grind
theorem wantL_flip {A : List SpanQ} (h : OKs A) : wantL (A.map flipS) = ((wantL A).map flipS).reverse := by
 have inA : ∀ s ∈ wantL A, s ∈ A := fun s hs => List.mem_of_find?_eq_some ((wLm A s).1 hs);refine ltF_unique (wantL_pw _) ?_ fun r => ?_
 ·rw [List.pairwise_reverse, List.pairwise_map]
  refine (wantL_pw A).imp_of_mem fun {s t} hs ht hst => ?_;show 1 - t.2.2 < 1 - s.2.2;have p1 := h.pos s (inA s hs);have p2 := h.pos t (inA t ht);unfold ltF at hst;rcases h.dis s (inA s hs) t (inA t ht) with e | e | e
  ·rw [e] at hst; exact absurd hst Rat.lt_irrefl
  ·grind
  ·grind
 ·rw [wLm, List.mem_reverse, List.mem_map]
  constructor
  ·intro hr
   obtain ⟨s, hs, rfl⟩ := List.mem_map.1 (List.mem_of_find?_eq_some hr);refine ⟨s, ?_, rfl⟩;rw [wLm];change firF (A.map flipS) (1 - s.2.2) = _ at hr;rw [firF_flip h hs] at hr;cases hf : firF A s.2.1 with
   | none => rw [hf] at hr; cases hr
   | some s' =>
     rw [hf] at hr;have e := Option.some.inj hr;rw [<- flipS_flip s', e, flipS_flip]
  ·rintro ⟨s, hs, rfl⟩
   show firF (A.map flipS) (1 - s.2.2) = _;rw [firF_flip h (inA s hs), (wLm A s).1 hs];rfl
theorem aff_zero {u v lo k hi : Rat} (h1 : lo < k) (h2 : k < hi) (hl : 0 <= affQ u v lo) (hh : 0 <= affQ u v hi) (h0 : affQ u v k = 0) : u = 0 /\ v = 0 := by
 unfold affQ at *;have hv : v - u = 0 := by
  refine Rat.le_antisymm (Rat.not_lt.1 fun h => ?_) (Rat.not_lt.1 fun h => ?_)
  ·have := Rat.mul_pos (show 0 < k - lo by grind) h
   grind
  ·have := Rat.mul_pos (show 0 < hi - k by grind) (show 0 < -(v - u) by grind)
   grind
 rw [hv] at h0;exact ⟨by grind, by grind⟩
theorem corner_extreme {A : TriP} (hA : 0 < dT A) {a b : PtQ} (hab : a ≠ b) {lo k hi : Rat} (h1 : lo < k) (h2 : k < hi) (hl : inT A (atT a b lo)) (hh : inT A (atT a b hi)) (hk : atT a b k = A.1) : False := by
 obtain ⟨l1, l2, l3⟩ := hl;obtain ⟨g1, g2, g3⟩ := hh;have z1 : affQ (areaQ A.1 A.2.1 a) (areaQ A.1 A.2.1 b) k = 0 := by rw [area_at, hk, area_self1]
 have z3 : affQ (areaQ A.2.2 A.1 a) (areaQ A.2.2 A.1 b) k = 0 := by rw [area_at, hk, area_self2]
 rw [<- area_at] at l1 l3 g1 g3;obtain ⟨e1, e2⟩ := aff_zero h1 h2 l1 g1 z1;obtain ⟨e3, e4⟩ := aff_zero h1 h2 l3 g3 z3;have key : ∀ x : PtQ, areaQ A.1 A.2.1 x = 0 -> areaQ A.2.2 A.1 x = 0 -> x = A.1 := fun x y1 y2 => corner_eq (B := rotT A) (by rw [dT_rot]; exact hA) y2 y1
 exact hab ((key a e1 e3).trans (key b e2 e4).symm)
theorem corner_any {A : TriP} (hA : 0 < dT A) {a b : PtQ} (hab : a ≠ b) {lo k hi : Rat} (h1 : lo < k) (h2 : k < hi) (hl : inT A (atT a b lo)) (hh : inT A (atT a b hi)) (hk : atT a b k = A.1 \/ atT a b k = A.2.1 \/ atT a b k = A.2.2) : False := by
 rcases hk with hk | hk | hk
 ·exact corner_extreme hA hab h1 h2 hl hh hk
 ·exact corner_extreme (A := rotT A) (by rw [dT_rot]; exact hA) hab h1 h2 ((inT_rot _ _).2 hl) ((inT_rot _ _).2 hh) hk
 ·exact corner_extreme (A := rotT (rotT A)) (by rw [dT_rot, dT_rot]; exact hA) hab h1 h2 ((inT_rot _ _).2 ((inT_rot _ _).2 hl)) ((inT_rot _ _).2 ((inT_rot _ _).2 hh)) hk
theorem mid_join {A B : TriP} (hA : 0 < dT A) (hB : 0 < dT B) (h : joinB1 A B = true) {a b : PtQ} {lo k hi : Rat} (h1 : lo < k) (h2 : k < hi) (hl : inT A (atT a b lo)) (hh : inT A (atT a b hi)) (ka : inT A (atT a b k)) (kb : inT B (atT a b k)) (t : Rat) :
 inT A (atT a b t) ↔ inT B (atT a b t) := by
 have hz : areaQ A.1 A.2.1 (atT a b k) = 0 := by
  have h3 := h;unfold joinB1 at h3;simp only [Bool.and_eq_true, decide_eq_true_eq] at h3;have h4 := kb.1;rw [h3.1, h3.2, area_swap] at h4;have h5 := ka.1;grind
 have l1 := hl.1;have g1 := hh.1;rw [<- area_at] at hz l1 g1;obtain ⟨e1, e2⟩ := aff_zero h1 h2 l1 g1 hz;refine join_eq hA hB h ?_;rw [<- area_at, e1, e2];unfold affQ; grind
theorem mid_same {A B : TriP} (hA : 0 < dT A) (hB : 0 < dT B) (h : apartB A B = true \/ apartB B A = true) {a b : PtQ} (hab : a ≠ b) {lo k hi : Rat} (h1 : lo < k) (h2 : k < hi) (hl : inT A (atT a b lo)) (hh : inT A (atT a b hi)) (ka : inT A (atT a b k)) (kb : inT B (atT a b k)) :
 ∀ t, inT A (atT a b t) ↔ inT B (atT a b t) := by
 rcases h with h | h
 ·unfold apartB at h
  rw [List.any_eq_true] at h;obtain ⟨A', hA', h⟩ := h;rw [List.any_eq_true] at h;obtain ⟨B', hB', h⟩ := h;obtain ⟨iA, dA⟩ := rots_in hA';obtain ⟨iB, dB⟩ := rots_in hB';rw [<- dA] at hA;rw [<- dB] at hB;rw [<- iA] at hl hh ka;rw [<- iB] at kb;intro t;rw [<- iA, <- iB];rcases (by rw [Bool.or_eq_true] at h; exact h) with h | h
  ·obtain ⟨e1, e2⟩ := sep_out hB h ka kb
   refine (corner_any hA hab h1 h2 hl hh ?_).elim;rw [e1];exact e2.imp id .inl
  ·exact mid_join hA hB h h1 h2 hl hh ka kb t
 ·unfold apartB at h
  rw [List.any_eq_true] at h;obtain ⟨B', hB', h⟩ := h;rw [List.any_eq_true] at h;obtain ⟨A', hA', h⟩ := h;obtain ⟨iA, dA⟩ := rots_in hA';obtain ⟨iB, dB⟩ := rots_in hB';rw [<- dA] at hA;rw [<- dB] at hB;rw [<- iA] at hl hh ka;rw [<- iB] at kb;intro t;rw [<- iA, <- iB];rcases (by rw [Bool.or_eq_true] at h; exact h) with h | h
  ·obtain ⟨e1, _⟩ := sep_out hA h kb ka
   exact (corner_any hA hab h1 h2 hl hh (.inr (.inr e1))).elim
  ·have h' : joinB1 A' B' = true := by
    unfold joinB1 at *;simp only [Bool.and_eq_true, decide_eq_true_eq] at *;exact ⟨h.2.symm, h.1.symm⟩
   exact mid_join hA hB h' h1 h2 hl hh ka kb t
theorem meshSep_pair {P : List PtQ} {T : List Tri} (hs : meshSep P T = true) {i j : Nat} (hij : i ≠ j) {t1 t2 : Tri} (h1 : T[i]? = some t1) (h3 : T[j]? = some t2) : apartB (triP P t1) (triP P t2) = true \/ apartB (triP P t2) (triP P t1) = true := by
 have l1 := (List.getElem?_eq_some_iff.1 h1).1;have l2 := (List.getElem?_eq_some_iff.1 h3).1;unfold meshSep at hs;rw [List.all_eq_true] at hs;rcases Nat.lt_or_gt_of_ne hij with hlt | hlt
 ·have := List.all_eq_true.1 (hs j (List.mem_range.2 l2)) i (List.mem_range.2 hlt)
  rw [h1, h3, Bool.or_eq_true] at this;exact this
 ·have := List.all_eq_true.1 (hs i (List.mem_range.2 l1)) j (List.mem_range.2 hlt)
  rw [h1, h3, Bool.or_eq_true] at this;exact this.symm
theorem firF_first {P : List PtQ} {T : List Tri} {a b : PtQ} {x : Rat} (n : Nat) : ∀ s, firF (sNN P T a b n) x = some s -> ∀ r ∈ sNN P T a b n, r.2.1 = x -> s.1 <= r.1 := by
 have hlt : ∀ n, ∀ r ∈ sNN P T a b n, r.1 < n := fun n r hr => by
  unfold sNN at hr;obtain ⟨i, hi, h⟩ := List.mem_flatMap.1 hr;rw [(spanAt_iff h).1];exact List.mem_range.1 hi
 induction n with
 | zero => intro s h; cases h
 | succ n ih =>
   intro s h r hr hx;rw [sNs] at h hr;unfold firF at h;rw [List.find?_append] at h;cases hf : firF (sNN P T a b n) x with
   | some s' =>
     have hs' : s' = s := by
      unfold firF at hf;rw [hf] at h;exact Option.some.inj h
     subst hs';rcases List.mem_append.1 hr with hr | hr
     ·exact ih _ hf r hr hx
     ·rw [(spanAt_iff hr).1]
      exact Nat.le_of_lt (hlt n _ (List.mem_of_find?_eq_some hf))
   | none =>
     unfold firF at hf;rw [hf, Option.none_or] at h;rw [(spanAt_iff (List.mem_of_find?_eq_some h)).1];rcases List.mem_append.1 hr with hr | hr
     ·exact absurd (decide_eq_true hx) (List.find?_eq_none.1 hf r hr)
     ·rw [(spanAt_iff hr).1]; exact Nat.le_refl _
theorem spans_mem {P : List PtQ} {T : List Tri} {a b : PtQ} {n i : Nat} {t : Tri} {l : Rat × Rat} (hi : i < n) (ht : T[i]? = some t) (h : wFF (ptI P t.1) (ptI P t.2.1) (ptI P t.2.2) a b = some l) : ((i, l) : SpanQ) ∈ sNN P T a b n := by
 unfold sNN;refine List.mem_flatMap.2 ⟨i, List.mem_range.2 hi, ?_⟩;rw [spanAt_some ht h];simp
theorem mid_first {P : List PtQ} {T : List Tri} (hd : ∀ t ∈ T, 0 < dT (triP P t)) (hs : meshSep P T = true) {a b : PtQ} (hab : a ≠ b) {s : SpanQ} (h : s ∈ wantL (sNN P T a b T.length)) {k : Rat} (h1 : s.2.1 < k) (h2 : k < s.2.2) :
 (∃ t, T[s.1]? = some t /\ inT (triP P t) (atT a b k)) /\ ∀ j t, j < s.1 -> T[j]? = some t -> ¬ inT (triP P t) (atT a b k) := by
 have hf := (wLm _ s).1 h;have hm := List.mem_of_find?_eq_some hf;obtain ⟨t, ht, hw⟩ := sNi hm;obtain ⟨p1, q1⟩ := span_in (c := triP P t) hw;have hk := ((q1 k).1 ⟨Rat.le_of_lt h1, Rat.le_of_lt h2⟩);refine ⟨⟨t, ht, hk.2⟩, fun j u hj hu hin => ?_⟩;have hl := (q1 s.2.1).1 ⟨Rat.le_refl, Rat.le_of_lt p1⟩;have hh := (q1 s.2.2).1 ⟨Rat.le_of_lt p1, Rat.le_refl⟩;have hall := mid_same (hd t (List.mem_of_getElem? ht)) (hd u (List.mem_of_getElem? hu)) (meshSep_pair hs (by omega) ht hu) hab h1 h2 hl.2 hh.2 hk.2 hin;have hwu := within_congr hall;unfold triP at hwu;dsimp only at hwu;rw [hw] at hwu;have := firF_first T.length s hf (j, s.2) (spans_mem (List.getElem?_eq_some_iff.1 hu).1 hu hwu.symm) rfl;have : s.1 <= j := this;omega
def sumS (L : List SpanQ) : Rat := L.foldl (fun r s => r + (s.2.2 - s.2.1)) 0
theorem no_gap {n : Nat} : ∀ (C : Nat -> Rat -> Prop) (x y : Rat), x < y -> (∀ t, x < t -> t < y -> ∃ i, i < n /\ C i t) -> ∃ i, i < n /\ ∃ t t', x < t /\ t < t' /\ t' < y /\ C i t /\ C i t' := by
 induction n with
 | zero =>
   intro C x y hxy h;obtain ⟨i, hi, _⟩ := h ((x + y) / 2) (by grind) (by grind);exact absurd hi (Nat.not_lt_zero _)
 | succ n ih =>
   intro C x y hxy h;rcases Classical.em (∃ t t', x < t /\ t < t' /\ t' < y /\ C n t /\ C n t') with hn | hn
   ·exact ⟨n, by omega, hn⟩
   ·have hsub : ∃ x' y', x <= x' /\ x' < y' /\ y' <= y /\ ∀ t, x' < t -> t < y' -> ¬ C n t := by
     rcases Classical.em (∃ p, x < p /\ p < y /\ C n p) with ⟨p, hp1, hp2, hp⟩ | hp
     ·refine ⟨x, p, Rat.le_refl, hp1, Rat.le_of_lt hp2, fun t h1 h2 hc => hn ⟨t, p, h1, h2, hp2, hc, hp⟩⟩
     ·exact ⟨x, y, Rat.le_refl, hxy, Rat.le_refl, fun t h1 h2 hc => hp ⟨t, h1, h2, hc⟩⟩
    obtain ⟨x', y', hx, hxy', hy, hno⟩ := hsub;obtain ⟨i, hi, t, t', g1, g2, g3, g4⟩ := ih C x' y' hxy' fun t h1 h2 => by
     obtain ⟨i, hi, hc⟩ := h t (by grind) (by grind);by_cases e : i = n
     ·subst e; exact absurd hc (hno t h1 h2)
     ·exact ⟨i, by omega, hc⟩
    exact ⟨i, by omega, t, t', by grind, g2, by grind, g4⟩
theorem sum_whole : ∀ (L : List SpanQ) (z r : Rat), (∀ s ∈ L, s.2.1 < s.2.2 /\ z <= s.2.1 /\ s.2.2 <= 1) -> L.Pairwise (fun s t => s.2.2 <= t.2.1) -> z <= 1 ->
 (∀ x y, z <= x -> x < y -> y <= 1 -> ∃ s ∈ L, s.2.1 < y /\ x < s.2.2) -> L.foldl (fun r s => r + (s.2.2 - s.2.1)) r = r + (1 - z)
 | [], z, r, _, _, hz, hg => by
   rcases (by grind : z = 1 \/ z < 1) with e | e
   ·subst e; show r = _; grind
   ·obtain ⟨s, hs, _⟩ := hg z 1 Rat.le_refl e Rat.le_refl
    exact absurd hs List.not_mem_nil
 | s :: L, z, r, h1, h2, hz, hg => by
   have hs := h1 s (by simp);rw [List.pairwise_cons] at h2;have hsz : s.2.1 = z := by
    refine Rat.le_antisymm (Rat.not_lt.1 fun h => ?_) hs.2.1;obtain ⟨u, hu, g1, g2⟩ := hg z s.2.1 Rat.le_refl h (by grind);rcases List.mem_cons.1 hu with rfl | hu
    ·exact Rat.lt_irrefl g1
    ·have := h2.1 u hu
     grind
   rw [List.foldl_cons, sum_whole L s.2.2 _ (fun u hu => ⟨(h1 u (by simp [hu])).1, h2.1 u hu, (h1 u (by simp [hu])).2.2⟩) h2.2 hs.2.2 (fun x y g1 g2 g3 => ?_), hsz]
   ·grind
   ·obtain ⟨u, hu, k1, k2⟩ := hg x y (by grind) g2 g3
    rcases List.mem_cons.1 hu with rfl | hu
    ·grind
    ·exact ⟨u, hu, k1, k2⟩
theorem cover_sum {P : List PtQ} {T : List Tri} (hd : ∀ t ∈ T, 0 < dT (triP P t)) (hs : meshSep P T = true) {a b : PtQ} (hab : a ≠ b) (hc : ∀ t, 0 <= t -> t <= 1 -> ∃ tr ∈ T, inT (triP P tr) (atT a b t)) :
 sumS (wantL (sNN P T a b T.length)) = 1 := by
 have hok := spans_ok hd hs hab T.length;have inA : ∀ s ∈ wantL (sNN P T a b T.length), s ∈ sNN P T a b T.length := fun s hs => List.mem_of_find?_eq_some ((wLm _ s).1 hs);have hin : ∀ s ∈ wantL (sNN P T a b T.length), s.2.1 < s.2.2 /\ 0 <= s.2.1 /\ s.2.2 <= 1 := fun s hs => by
  obtain ⟨t, ht, hw⟩ := sNi (inA s hs);obtain ⟨p, q⟩ := span_in (c := triP P t) hw;have q1 := (q s.2.1).1 ⟨Rat.le_refl, Rat.le_of_lt p⟩;have q2 := (q s.2.2).1 ⟨Rat.le_of_lt p, Rat.le_refl⟩;exact ⟨p, q1.1.1, q2.1.2⟩
 unfold sumS;rw [sum_whole _ 0 0 hin ?_ (by decide) ?_]
 ·grind
 ·refine (wantL_pw _).imp_of_mem fun {s t} hs ht hst => ?_
  have p1 := hok.pos s (inA s hs);have p2 := hok.pos t (inA t ht);unfold ltF at hst;rcases hok.dis s (inA s hs) t (inA t ht) with e | e | e
  ·rw [e] at hst; exact absurd hst Rat.lt_irrefl
  ·exact e
  ·grind
 ·intro x y hx hxy hy
  obtain ⟨i, hi, t, t', g1, g2, g3, g4, g5⟩ := no_gap (n := T.length) (fun i t => ∃ tr, T[i]? = some tr /\ inT (triP P tr) (atT a b t)) x y hxy fun t h1 h2 => by
   obtain ⟨tr, htr, hin⟩ := hc t (by grind) (by grind);obtain ⟨i, hi, rfl⟩ := List.mem_iff_getElem.1 htr;exact ⟨i, hi, T[i], List.getElem?_eq_getElem hi, hin⟩
  obtain ⟨tr, htr, q1⟩ := g4;obtain ⟨tr', htr', q2⟩ := g5;rw [htr] at htr';cases htr';rcases within_sp (triP P tr) a b with ⟨l, w1, w2, w3⟩ | ⟨w1, w2⟩
  ·have hmem := spans_mem (n := T.length) hi htr w1
   have k1 := (w3 t).2 ⟨⟨by grind, by grind⟩, q1⟩;have k2 := (w3 t').2 ⟨⟨by grind, by grind⟩, q2⟩;cases hf : firF (sNN P T a b T.length) l.1 with
   | none => exact absurd (decide_eq_true rfl) (List.find?_eq_none.1 hf _ hmem)
   | some s =>
     have hsx := firF_x hf;have hsm : s ∈ sNN P T a b T.length := List.mem_of_find?_eq_some hf;have hto : s.2.2 = l.2 := (hok.to_from hsm hmem).2 hsx;refine ⟨s, (wLm _ s).2 (by rw [hsx]; exact hf), ?_, ?_⟩
     ·rw [hsx]; grind
     ·rw [hto]; grind
  ·exact (w2 t t' g2 ⟨by grind, by grind⟩ ⟨by grind, by grind⟩ q1 q2).elim
def bordK : Nat -> List (Int × Int)
 | 0 => [(0, 1), (1, 2), (2, 3), (3, 0)]
 | 1 => [(0, 1), (1, 2), (2, 3), (3, 0)]
 | 2 => [(0, 1), (1, 2), (2, 3), (3, 0)]
 | 3 => [(0, 1), (1, 2), (2, 0)]
 | 4 => [(0, 2), (2, 5), (5, 3), (3, 0)]
 | 5 => [(3, 2), (2, 1), (1, 0), (0, 3)]
 | 6 => [(0, 1), (1, 2), (2, 3), (3, 0)]
 | _ => [(0, 1), (1, 2), (2, 0)]
def hullIn (P : List PtQ) (E : List (Int × Int)) (x : PtQ) : Prop := ∀ e ∈ E, 0 <= areaQ (ptI P e.1) (ptI P e.2) x
def sIn (P : List PtQ) (T : List Tri) (x : PtQ) : Prop := ∃ t ∈ T, inT (triP P t) x
theorem shape_hull (k : Nat) (x : PtQ) : sIn (sQQ k) (sTT k) x ↔ hullIn (sQQ k) (bordK k) x := by
 obtain ⟨x, y⟩ := x;unfold sTT bordK sQQ sb0 sIn hullIn inT triP ptI areaQ;split <;> simp <;> grind
theorem inT_move (s t d : Rat) (hd : 0 < d) (c : TriP) (x : PtQ) : inT (movT s t d c) (moveP s t d x) ↔ inT c x := by
 have hdd := Rat.mul_pos hd hd;have key : ∀ z : Rat, 0 <= d * d * z ↔ 0 <= z := fun z => by
  constructor
  ·intro h
   refine Rat.not_lt.1 fun h2 => ?_;have := mul_neg_of hdd h2;grind
  ·exact fun h => Rat.mul_nonneg (Rat.le_of_lt hdd) h
 unfold inT movT;dsimp only;rw [areaQ_move, areaQ_move, areaQ_move, key, key, key]
theorem moveP_back (s t d : Rat) (hd : 0 < d) (x : PtQ) : ∃ y, x = moveP s t d y := by
 refine ⟨(x.1 / d - s, x.2 / d - t), ?_⟩;have h : ∀ z : Rat, z / d * d = z := fun z => Rat.div_mul_cancel (fun e => by rw [e] at hd; exact Rat.lt_irrefl hd)
 have h1 := h x.1;have h2 := h x.2;unfold moveP;exact Prod.ext (by dsimp only; grind) (by dsimp only; grind)
theorem atT_move (s t d : Rat) (a b : PtQ) (k : Rat) : atT (moveP s t d a) (moveP s t d b) k = moveP s t d (atT a b k) := by
 unfold atT moveP;exact Prod.ext (by dsimp only; grind) (by dsimp only; grind)
theorem sheetIn_move (s t d : Rat) (hd : 0 < d) (P : List PtQ) (T : List Tri) (hx : ∀ t ∈ T, ∀ x ∈ idxOf t, 0 <= x /\ x < (P.length : Int)) (x : PtQ) : sIn (P.map (moveP s t d)) T (moveP s t d x) ↔ sIn P T x := by
 unfold sIn;constructor
 ·rintro ⟨tr, htr, h⟩
  rw [triP_move s t d P T hx tr htr, inT_move s t d hd] at h;exact ⟨tr, htr, h⟩
 ·rintro ⟨tr, htr, h⟩
  refine ⟨tr, htr, ?_⟩;rw [triP_move s t d P T hx tr htr, inT_move s t d hd];exact h
theorem sheet_cover (k : Nat) (s0 s1 : Int) (half : Bool) {a b : PtQ} (ha : sIn (sPP k s0 s1 half) (sTT k) a) (hb : sIn (sPP k s0 s1 half) (sTT k) b) (t : Rat) (h0 : 0 <= t) (h1 : t <= 1) : sIn (sPP k s0 s1 half) (sTT k) (atT a b t) := by
 have hx := (sheet_ok k s0 s1 half).idx;rw [sheetP_length, show (sb0 k).length = (sQQ k).length by simp [sQQ]] at hx;rw [sheetP_move] at *;have hd : (0 : Rat) < 1 / (halfD half : Rat) := by cases half <;> decide +kernel
 obtain ⟨a', rfl⟩ := moveP_back (s0.tmod 8 : Int) (s1.tmod 8 : Int) _ hd a;obtain ⟨b', rfl⟩ := moveP_back (s0.tmod 8 : Int) (s1.tmod 8 : Int) _ hd b;rw [atT_move, sheetIn_move _ _ _ hd _ _ hx, shape_hull];rw [sheetIn_move _ _ _ hd _ _ hx, shape_hull] at ha hb;intro e he;rw [<- area_at];exact aff_between h0 h1 (ha e he) (hb e he)
theorem sheet_spans (k : Nat) (s0 s1 : Int) (half : Bool) {a b : PtQ} (hab : a ≠ b) :
 alongL (sPP k s0 s1 half) (sTT k) b a = ((alongL (sPP k s0 s1 half) (sTT k) a b).map flipS).reverse /\
 (∀ s ∈ alongL (sPP k s0 s1 half) (sTT k) a b, s.2.1 < s.2.2 /\ 0 <= s.2.1 /\ s.2.2 <= 1) /\
 (alongL (sPP k s0 s1 half) (sTT k) a b).Pairwise (fun s t => s.2.2 <= t.2.1) /\
 (∀ s ∈ alongL (sPP k s0 s1 half) (sTT k) a b, (∃ t, (sTT k)[s.1]? = some t /\ inT (triP (sPP k s0 s1 half) t) (atT a b ((s.2.1 + s.2.2) / 2))) /\ ∀ j t, j < s.1 -> (sTT k)[j]? = some t -> ¬ inT (triP (sPP k s0 s1 half) t) (atT a b ((s.2.1 + s.2.2) / 2))) /\
 (sIn (sPP k s0 s1 half) (sTT k) a -> sIn (sPP k s0 s1 half) (sTT k) b -> sumS (alongL (sPP k s0 s1 half) (sTT k) a b) = 1) := by
 have hd := mesh_dT (sheet_ok k s0 s1 half);have hs := sheet_sep k s0 s1 half;have hok := spans_ok hd hs hab (sTT k).length;have hf : alongL (sPP k s0 s1 half) (sTT k) b a = ((alongL (sPP k s0 s1 half) (sTT k) a b).map flipS).reverse := by
  rw [sheet_along k s0 s1 half hab, sheet_along k s0 s1 half (fun e => hab e.symm), spansN_flip, wantL_flip hok]
 rw [hf];rw [sheet_along k s0 s1 half hab];have inA : ∀ s ∈ wantL (sNN (sPP k s0 s1 half) (sTT k) a b (sTT k).length), s ∈ sNN (sPP k s0 s1 half) (sTT k) a b (sTT k).length := fun s hs => List.mem_of_find?_eq_some ((wLm _ s).1 hs);have hpos : ∀ s ∈ wantL (sNN (sPP k s0 s1 half) (sTT k) a b (sTT k).length), s.2.1 < s.2.2 /\ 0 <= s.2.1 /\ s.2.2 <= 1 := fun s hs => by
  obtain ⟨t, ht, hw⟩ := sNi (inA s hs);obtain ⟨p, q⟩ := span_in (c := triP _ t) hw;have q1 := (q s.2.1).1 ⟨Rat.le_refl, Rat.le_of_lt p⟩;have q2 := (q s.2.2).1 ⟨Rat.le_of_lt p, Rat.le_refl⟩;exact ⟨p, q1.1.1, q2.1.2⟩
 refine ⟨rfl, hpos, ?_, fun s hsm => ?_, fun ha hb => ?_⟩
 ·refine (wantL_pw _).imp_of_mem fun {s t} hs ht hst => ?_
  have p1 := hok.pos s (inA s hs);have p2 := hok.pos t (inA t ht);unfold ltF at hst;rcases hok.dis s (inA s hs) t (inA t ht) with e | e | e
  ·rw [e] at hst; exact absurd hst Rat.lt_irrefl
  ·exact e
  ·grind
 ·have := hpos s hsm
  exact mid_first hd hs hab hsm (by grind) (by grind)
 ·exact cover_sum hd hs hab (sheet_cover k s0 s1 half ha hb)
theorem turnZ_nn (a b c : PtQ) : 0 <= turnZ a b c ↔ 0 <= areaQ a b c := by
 unfold turnZ;rw [sign_if];by_cases h : areaQ a b c < 0
 ·rw [if_pos h]
  exact ⟨fun h2 => absurd h2 (by decide), fun h2 => absurd h (Rat.not_lt.2 h2)⟩
 ·rw [if_neg h]
  exact ⟨fun _ => Rat.not_lt.1 h, fun _ => by split <;> decide⟩
theorem insideT_iff (P : List PtQ) (T : List Tri) (p : PtQ) (i : Nat) : iTT P T p i = true ↔ ∃ t, T[i]? = some t /\ inT (triP P t) p := by
 unfold iTT;cases h : T[i]? with
 | none => simp
 | some t =>
   simp only [Option.some.injEq, exists_eq_left'];unfold iBB inT triP;simp only [Bool.and_eq_true, decide_eq_true_eq, turnZ_nn];exact and_assoc
theorem locN_in (P : List PtQ) (T : List Tri) (p : PtQ) : (0 : Int) < ((locN P T p T.length).length : Int) ↔ sIn P T p := by
 have h : 0 < (locN P T p T.length).length ↔ sIn P T p := by
  unfold locN;rw [List.length_map];constructor
  ·intro h
   obtain ⟨i, hi⟩ := List.exists_mem_of_length_pos h;obtain ⟨_, hi⟩ := List.mem_filter.1 hi;obtain ⟨t, ht, hin⟩ := (insideT_iff P T p i).1 hi;exact ⟨t, List.mem_of_getElem? ht, hin⟩
  ·rintro ⟨t, ht, hin⟩
   obtain ⟨i, hi, rfl⟩ := List.mem_iff_getElem.1 ht;exact List.length_pos_of_mem (List.mem_filter.2 ⟨List.mem_range.2 hi, (insideT_iff P T p i).2 ⟨_, List.getElem?_eq_getElem hi, hin⟩⟩)
 rw [<- h]; omega
end Go.Proofs.YtegiemcnfbchoaaGreatDoor
