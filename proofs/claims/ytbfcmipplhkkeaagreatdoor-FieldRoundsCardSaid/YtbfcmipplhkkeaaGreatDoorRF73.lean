import Derived.Test.YtbfcmipplhkkeaaGreatDoorRF32
import Derived.Deep.MidRow
/- Plain The walks over slices.MinFunc, MaxFunc, field.Range, thickness.Extremes, At. klippelaw38.ThicknessVertical returns true at every plan and place klippelaw12.Place by 3 What MeshSpans needs beside The walks over klipperef05.Area, klippelaw13.corners, klippelaw13.On. -/
set_option maxHeartbeats 8000000
set_option maxRecDepth 100000
namespace Go.Proofs.YtbfcmipplhkkeaaGreatDoor
open Go.RowKit Go.Lib
theorem int_pos_of_rat {n : Int} (h : (0 : Rat) < (n : Rat)) : 0 < n := by
 have : ((0 : Int) : Rat) < (n : Rat) := h;exact Rat.intCast_lt_intCast.1 this
theorem int_neg_of_rat {n : Int} (h : (n : Rat) < 0) : n < 0 := by
 have : (n : Rat) < ((0 : Int) : Rat) := h;exact Rat.intCast_lt_intCast.1 this
section
variable {A x y w V : Rat} {a h0 h1 h2 p : Int} {q : Nat}
theorem TriI.dpos (h : TriI A x y w a h0 h1 h2 p q) (hs : (y < x /\ w < x) \/ (x < y /\ x < w)) : 0 < (h0 - h1) * (h0 - h2) := by
 obtain ⟨d1, d2⟩ := h.dif;have e1 : ((h0 - h1 : Int) : Rat) = (x - y) * 2 := by rw [Rat.intCast_sub, d1]
 have e2 : ((h0 - h2 : Int) : Rat) = (x - w) * 2 := by rw [Rat.intCast_sub, d2]
 rcases hs with ⟨s1, s2⟩ | ⟨s1, s2⟩
 ·exact Int.mul_pos (int_pos_of_rat (by rw [e1]; grind)) (int_pos_of_rat (by rw [e2]; grind))
 ·exact Int.mul_pos_of_neg_of_neg (int_neg_of_rat (by rw [e1]; grind)) (int_neg_of_rat (by rw [e2]; grind))
def NumP (V : Rat) (q : Nat) : Prop := ∃ D N : Int, 0 < D /\ D.natAbs <= 23104 /\ N.natAbs <= 1000000000000 * (q * q * q) /\ V * (48 * (q : Rat) * q * q * (D : Rat)) = (N : Rat)
theorem num_bounds (ha : a.natAbs <= 5408) (b0 : h0.natAbs <= 76) (b1 : h1.natAbs <= 76) (b2 : h2.natAbs <= 76) (bp : p.natAbs <= 76 * q) :
 (a * ((h0 * q - 2 * p) * (h0 * q - 2 * p) * (h0 * q - 2 * p))).natAbs <= 100000000000 * (q * q * q) /\ (a * ((h0 + h1 + h2) * q - 6 * p) * (q * q * ((h0 - h1) * (h0 - h2)))).natAbs <= 100000000000 * (q * q * q) /\ (a * ((h0 + h1 + h2) * q - 6 * p) * (q * q)).natAbs <= 100000000000 * (q * q * q) /\ ((h0 - h1) * (h0 - h2)).natAbs <= 23104 := by
 have u0 : (h0 * q - 2 * p).natAbs <= 228 * q := by
  have := Int.natAbs_sub_le (h0 * q) (2 * p);rw [Int.natAbs_mul, Int.natAbs_mul] at this;have h3 : h0.natAbs * ((q : Int).natAbs) <= 76 * q := Nat.mul_le_mul b0 (by omega);have h4 : (2 : Int).natAbs = 2 := rfl;rw [h4] at this;omega
 have us : ((h0 + h1 + h2) * q - 6 * p).natAbs <= 684 * q := by
  have := Int.natAbs_sub_le ((h0 + h1 + h2) * q) (6 * p);rw [Int.natAbs_mul, Int.natAbs_mul] at this;have h3 : (h0 + h1 + h2).natAbs * ((q : Int).natAbs) <= 228 * q := Nat.mul_le_mul (by omega) (by omega);have h4 : (6 : Int).natAbs = 6 := rfl;rw [h4] at this;omega
 have d1 : (h0 - h1).natAbs <= 152 := by omega
 have d2 : (h0 - h2).natAbs <= 152 := by omega
 have dd : ((h0 - h1) * (h0 - h2)).natAbs <= 152 * 152 := by rw [Int.natAbs_mul]; exact Nat.mul_le_mul d1 d2
 have qq : ((q : Int) * q).natAbs = q * q := by rw [Int.natAbs_mul]; rfl
 refine ⟨?_, ?_, ?_, by omega⟩
 ·rw [Int.natAbs_mul]
  refine Nat.le_trans (Nat.mul_le_mul ha (natAbs3 _ _ _ u0 u0 u0)) ?_;have : 5408 * (228 * q * (228 * q) * (228 * q)) = (5408 * 228 * 228 * 228) * (q * q * q) := by grind
  rw [this];exact Nat.mul_le_mul_right _ (by decide)
 ·refine Nat.le_trans (natAbs3 _ _ _ ha us (C := q * q * (152 * 152)) ?_) ?_
  ·rw [Int.natAbs_mul, qq]; exact Nat.mul_le_mul_left _ dd
  ·have : 5408 * (684 * q) * (q * q * (152 * 152)) = (5408 * 684 * (152 * 152)) * (q * q * q) := by grind
   rw [this];exact Nat.mul_le_mul_right _ (by decide)
 ·refine Nat.le_trans (natAbs3 _ _ _ ha us (C := q * q) (by rw [qq]; exact Nat.le_refl _)) ?_
  have : 5408 * (684 * q) * (q * q) = (5408 * 684) * (q * q * q) := by grind
  rw [this];exact Nat.mul_le_mul_right _ (by decide)
theorem TriI.capnot (h : TriI A x y w a h0 h1 h2 p q) (hv : CapP A x y w V \/ NotP A x y w V) (ha : a.natAbs <= 5408) (b0 : h0.natAbs <= 76) (b1 : h1.natAbs <= 76) (b2 : h2.natAbs <= 76) (bp : p.natAbs <= 76 * q) : NumP V q := by
 obtain ⟨n1, n2, -, n4⟩ := num_bounds (q := q) ha b0 b1 b2 bp;rcases hv with ⟨-, g1, g2, g3, r, s, hr, hs, hV⟩ | ⟨-, g1, g2, g3, r, s, hr, hs, hV⟩
 ·exact ⟨_, _, h.dpos (.inl ⟨by grind, by grind⟩), n4, by omega, h.cap hr hs hV⟩
 ·refine ⟨_, _, h.dpos (.inr ⟨by grind, by grind⟩), n4, ?_, h.not hr hs hV⟩
  refine Nat.le_trans (Int.natAbs_sub_le _ _) ?_;omega
theorem TriI.num (h : TriI A x y w a h0 h1 h2 p q) (hv : VolP A x y w V) (ha : a.natAbs <= 5408) (b0 : h0.natAbs <= 76) (b1 : h1.natAbs <= 76) (b2 : h2.natAbs <= 76) (bp : p.natAbs <= 76 * q) : NumP V q := by
 rcases hv with ⟨-, -, -, rfl⟩ | ⟨-, -, -, hV⟩ | hv | hv | hv
 ·exact ⟨1, 0, by decide, by decide, by simp, by grind⟩
 ·obtain ⟨-, -, n3, -⟩ := num_bounds (q := q) ha b0 b1 b2 bp
  refine ⟨1, _, by decide, by decide, Nat.le_trans n3 (by omega), ?_⟩;have c := h.whole hV;rw [Rat.intCast_mul, <- c, Rat.intCast_mul];have e3 : (((q : Nat) : Int) : Rat) = (q : Rat) := rfl;have e4 : ((1 : Int) : Rat) = 1 := rfl;rw [e3, e4];grind
 ·exact h.capnot hv ha b0 b1 b2 bp
 ·exact h.turn.capnot hv ha b1 b2 b0 bp
 ·exact h.turn.turn.capnot hv ha b2 b0 b1 bp
end
end Go.Proofs.YtbfcmipplhkkeaaGreatDoor
namespace Go.Proofs.YtbfcmipplhkkeaaGreatDoor
open Go.RowKit Go.Lib
theorem cmpQ_cases (x m : Rat) : (x < m /\ cmpQ x m = -1) \/ (x = m /\ cmpQ x m = 0) \/ (m < x /\ cmpQ x m = 1) := by
 unfold cmpQ;by_cases h1 : x < m
 ·exact .inl ⟨h1, by rw [if_pos h1]⟩
 ·by_cases h2 : m < x
  ·exact .inr (.inr ⟨h2, by rw [if_neg h1, if_pos h2]⟩)
  ·exact .inr (.inl ⟨Rat.le_antisymm (Rat.not_lt.1 h2) (Rat.not_lt.1 h1), by rw [if_neg h1, if_neg h2]⟩)
def Fr (d B : Nat) (q : Rat) : Prop := ∃ n : Int, q * (d : Rat) = (n : Rat) /\ n.natAbs <= B
theorem Fr.zero (d B : Nat) : Fr d B 0 := ⟨0, by grind, by simp⟩
theorem Fr.mono {d B C : Nat} {q : Rat} (h : Fr d B q) (hBC : B <= C) : Fr d C q := by
 obtain ⟨n, h1, h2⟩ := h;exact ⟨n, h1, Nat.le_trans h2 hBC⟩
theorem Fr.add {d A B : Nat} {p q : Rat} (hp : Fr d A p) (hq : Fr d B q) : Fr d (A + B) (p + q) := by
 obtain ⟨m, h1, h2⟩ := hp;obtain ⟨n, h3, h4⟩ := hq;exact ⟨m + n, by rw [Rat.intCast_add]; grind, by omega⟩
theorem Fr.sub {d A B : Nat} {p q : Rat} (hp : Fr d A p) (hq : Fr d B q) : Fr d (A + B) (p - q) := by
 obtain ⟨m, h1, h2⟩ := hp;obtain ⟨n, h3, h4⟩ := hq;exact ⟨m - n, by rw [Rat.intCast_sub]; grind, by omega⟩
theorem Fr.mul {d e A B : Nat} {p q : Rat} (hp : Fr d A p) (hq : Fr e B q) : Fr (d * e) (A * B) (p * q) := by
 obtain ⟨m, h1, h2⟩ := hp;obtain ⟨n, h3, h4⟩ := hq;refine ⟨m * n, ?_, ?_⟩
 ·rw [Rat.intCast_mul, Rat.natCast_mul, <- h1, <- h3]
  grind
 ·rw [Int.natAbs_mul]
  exact Nat.mul_le_mul h2 h4
theorem RdQ.cells {w : World} {v : Value} {l : List Rat} (h : RdQ w v l) (hn : 0 < l.length) : ∃ b o c : Nat, v = .slice (some ⟨b, o, none⟩) l.length c /\ b < w.heap.size /\ ∀ i : Nat, i < l.length -> w.cell? ⟨b, o + i, none⟩ = some (.string (RS (hI l i))) := by
 obtain ⟨p, c, rfl, -, -, hr⟩ := h.open;obtain ⟨b, o, rfl, hb, hc⟩ := hr (List.ne_nil_of_length_pos hn);exact ⟨b, o, c, rfl, hb, fun i hi => by rw [hI_nat l i hi]; exact hc i hi⟩
theorem RdP.cells {w : World} {v : Value} {P : List PtQ} (h : RdP w v (strP P)) (hn : 0 < P.length) : ∃ b o c : Nat, v = .slice (some ⟨b, o, none⟩) P.length c /\ b < w.heap.size /\ ∀ i : Nat, i < P.length -> w.cell? ⟨b, o + i * 2, none⟩ = some (.string (RS (ptI P i).1)) /\ w.cell? ⟨b, o + i * 2 + 1, none⟩ = some (.string (RS (ptI P i).2)) := by
 obtain ⟨p, c, rfl, -, -, hr⟩ := h.open;obtain ⟨b, o, rfl, hb, hc⟩ := hr (List.ne_nil_of_length_pos (by rw [strP_length]; exact hn));refine ⟨b, o, c, by rw [strP_length], hb, fun i hi => ?_⟩;have h1 := hc i (by rw [strP_length]; exact hi);rw [strP_get P i hi] at h1;rw [ptI_nat P i hi];exact h1
theorem RdT.cells {w : World} {v : Value} {T : List Tri} (h : RdT w v T) (hn : 0 < T.length) : ∃ b o c : Nat, v = .slice (some ⟨b, o, none⟩) T.length c /\ b < w.heap.size /\ ∀ t : Nat, t < T.length -> w.cell? ⟨b, o + t * 3, none⟩ = some (.int .i64 (triI T t).1) /\ w.cell? ⟨b, o + t * 3 + 1, none⟩ = some (.int .i64 (triI T t).2.1) /\ w.cell? ⟨b, o + t * 3 + 2, none⟩ = some (.int .i64 (triI T t).2.2) := by
 obtain ⟨p, c, rfl, -, -, hr⟩ := h.open;obtain ⟨b, o, rfl, hb, hc⟩ := hr (List.ne_nil_of_length_pos hn);refine ⟨b, o, c, rfl, hb, fun t ht => ?_⟩;rw [triI_nat T t ht];exact hc t ht
def dQ (p q : PtQ) : Int := if q = p then 1 else 0
def gQ (p a b : PtQ) : Int := dQ p a - dQ p b
def ringK (p : PtQ) (keep : Cor -> Cor -> Bool) (l : List Cor) : Nat -> Int
 | 0 => 0
 | i + 1 => ringK p keep l i + (if keep (corI l i) (corI l ((i + 1) % l.length)) then gQ p (corI l i).1 (corI l ((i + 1) % l.length)).1 else 0)
def hQ (p : PtQ) (z : Rat) (a b : Cor) : Int :=
 if a.2 < z then (if z < b.2 then gQ p (crossK a b z).1 b.1 else 0) else if b.2 < z then (if z < a.2 then gQ p a.1 (crossK a b z).1 else 0) else gQ p a.1 b.1
def levB (z : Rat) (a b : Cor) : Bool := decide (a.2 = z) && decide (b.2 = z)
def sideG (p : PtQ) (z : Rat) (has kept : Bool) (a b : Cor) : Int := if levB z a b then (if has && !kept then gQ p a.1 b.1 else 0) else hQ p z a b
theorem gQ_rev (p a b : PtQ) : gQ p b a = - gQ p a b := by unfold gQ; omega
theorem crossK_rev {a b : Cor} {z : Rat} (h : a.2 ≠ b.2) : (crossK b a z).1 = (crossK a b z).1 := by
 have key : ∀ u v : Rat, towQ v u ((b.2 - z) / ((b.2 - z) - (a.2 - z))) = towQ u v ((a.2 - z) / ((a.2 - z) - (b.2 - z))) := fun u v => by
  have h1 : (a.2 - z) - (b.2 - z) ≠ 0 := by intro e; apply h; grind
  have h2 : (b.2 - z) - (a.2 - z) ≠ 0 := by intro e; apply h; grind
  have e1 := Rat.div_mul_cancel (a := a.2 - z) h1;have e2 := Rat.div_mul_cancel (a := b.2 - z) h2;generalize (a.2 - z) / ((a.2 - z) - (b.2 - z)) = r at *;generalize (b.2 - z) / ((b.2 - z) - (a.2 - z)) = s at *;have : (r + s - 1) * (a.2 - b.2) = 0 := by grind
  have h3 : r + s - 1 = 0 := by
   rcases Rat.mul_eq_zero.1 this with h | h
   ·exact h
   ·exfalso; apply h1; grind
  unfold towQ;have : s = 1 - r := by grind
  rw [this]; grind
 unfold crossK;exact Prod.ext (key a.1.1 b.1.1) (key a.1.2 b.1.2)
theorem hQ_rev (p : PtQ) (z : Rat) (a b : Cor) (h : ¬ (a.2 = z /\ b.2 = z)) : hQ p z b a = - hQ p z a b := by
 unfold hQ;rcases (by grind : a.2 < z \/ a.2 = z \/ z < a.2) with ha | ha | ha <;> rcases (by grind : b.2 < z \/ b.2 = z \/ z < b.2) with hb | hb | hb
 ·rw [if_pos hb, if_pos ha, if_neg (by grind), if_neg (by grind)]; rfl
 ·rw [if_neg (by grind), if_pos ha, if_neg (by grind), if_pos ha, if_neg (by grind)]; rfl
 ·rw [if_neg (by grind), if_pos ha, if_pos hb, if_pos ha, if_pos hb, crossK_rev (by grind), gQ_rev]
 ·rw [if_pos hb, if_neg (by grind), if_neg (by grind), if_pos hb, if_neg (by grind)]; rfl
 ·exact absurd ⟨ha, hb⟩ h
 ·rw [if_neg (by grind), if_neg (by grind), if_neg (by grind), if_neg (by grind), gQ_rev]
 ·rw [if_pos hb, if_pos ha, if_neg (by grind), if_pos hb, if_pos ha, crossK_rev (by grind), gQ_rev]
 ·rw [if_neg (by grind), if_neg (by grind), if_neg (by grind), if_neg (by grind), gQ_rev]
 ·rw [if_neg (by grind), if_neg (by grind), if_neg (by grind), if_neg (by grind), gQ_rev]
theorem sideG_far {p : PtQ} {z : Rat} {has kept : Bool} {a b : Cor} (h1 : a.1 ≠ p) (h2 : b.1 ≠ p) (h3 : (a.2 - z).num.sign * (b.2 - z).num.sign < 0 -> (crossK a b z).1 ≠ p) : sideG p z has kept a b = 0 := by
 have e1 : dQ p a.1 = 0 := by unfold dQ; rw [if_neg h1]
 have e2 : dQ p b.1 = 0 := by unfold dQ; rw [if_neg h2]
 unfold sideG;split
 ·split
  ·unfold gQ; omega
  ·rfl
 ·unfold hQ
  split
  ·split
   ·rename_i ha hb
    have e3 : dQ p (crossK a b z).1 = 0 := by unfold dQ; rw [if_neg (h3 (by rw [sgn_neg (show a.2 - z < 0 by grind), sgn_pos (show 0 < b.2 - z by grind)]; decide))]
    unfold gQ; omega
   ·rfl
  ·split
   ·split
    ·rename_i ha hb hc
     have e3 : dQ p (crossK a b z).1 = 0 := by unfold dQ; rw [if_neg (h3 (by rw [sgn_pos (show 0 < a.2 - z by grind), sgn_neg (show b.2 - z < 0 by grind)]; decide))]
     unfold gQ; omega
    ·rfl
   ·unfold gQ; omega
theorem cross_far {a b c : Cor} {z α sx sy : Rat} (ha : a.2 = α + sx * a.1.1 + sy * a.1.2) (hb : b.2 = α + sx * b.1.1 + sy * b.1.2) (hc : c.2 = α + sx * c.1.1 + sy * c.1.2) (h : (a.2 - z).num.sign * (b.2 - z).num.sign < 0) (hn : ¬ c.2 = z) : (crossK a b z).1 ≠ c.1 := by
 intro e;obtain ⟨-, -, h3⟩ := cross_share h;unfold crossK towQ at e;dsimp only at e;generalize (a.2 - z) / ((a.2 - z) - (b.2 - z)) = r at *;apply hn;rw [hc, <- e];dsimp only;grind
theorem tri_net (p : PtQ) (c0 c1 c2 : Cor) (z α sx sy : Rat) (h0 : c0.2 = α + sx * c0.1.1 + sy * c0.1.2) (h1 : c1.2 = α + sx * c1.1.1 + sy * c1.1.2) (h2 : c2.2 = α + sx * c2.1.1 + sy * c2.1.2) (d01 : c0.1 ≠ c1.1) (d12 : c1.1 ≠ c2.1) (d20 : c2.1 ≠ c0.1) (K : Int -> Bool) :
 ringK p (fun a b => decide (a.2 = z) && decide (b.2 = z) && (decide (sideL c0.1 c1.1 c2.1 a.1 b.1 < 0) || K (sideL c0.1 c1.1 c2.1 a.1 b.1))) (cutL c0 c1 c2 z) (cutL c0 c1 c2 z).length +
  (sideG p z (!(cutL c0 c1 c2 z).isEmpty) (K 0) c0 c1 + sideG p z (!(cutL c0 c1 c2 z).isEmpty) (K 1) c1 c2 + sideG p z (!(cutL c0 c1 c2 z).isEmpty) (K 2) c2 c0) = 0 := by
 have k01 : ∀ c : Cor, c.2 = α + sx * c.1.1 + sy * c.1.2 -> (c0.2 - z).num.sign * (c1.2 - z).num.sign < 0 -> ¬ c.2 = z -> ¬ (crossK c0 c1 z).1 = c.1 /\ ¬ c.1 = (crossK c0 c1 z).1 := fun c hc h hn => ⟨cross_far h0 h1 hc h hn, fun e => cross_far h0 h1 hc h hn e.symm⟩;have k12 : ∀ c : Cor, c.2 = α + sx * c.1.1 + sy * c.1.2 -> (c1.2 - z).num.sign * (c2.2 - z).num.sign < 0 -> ¬ c.2 = z -> ¬ (crossK c1 c2 z).1 = c.1 /\ ¬ c.1 = (crossK c1 c2 z).1 := fun c hc h hn => ⟨cross_far h1 h2 hc h hn, fun e => cross_far h1 h2 hc h hn e.symm⟩;have k20 : ∀ c : Cor, c.2 = α + sx * c.1.1 + sy * c.1.2 -> (c2.2 - z).num.sign * (c0.2 - z).num.sign < 0 -> ¬ c.2 = z -> ¬ (crossK c2 c0 z).1 = c.1 /\ ¬ c.1 = (crossK c2 c0 z).1 := fun c hc h hn => ⟨cross_far h2 h0 hc h hn, fun e => cross_far h2 h0 hc h hn e.symm⟩;have a0 := k01 c0 h0; have a1 := k01 c1 h1; have a2 := k01 c2 h2;have b0 := k12 c0 h0; have b1 := k12 c1 h1; have b2 := k12 c2 h2;have e0 := k20 c0 h0; have e1 := k20 c1 h1; have e2 := k20 c2 h2;have x01 : (crossK c0 c1 z).2 = z := rfl;have x12 : (crossK c1 c2 z).2 = z := rfl;have x20 : (crossK c2 c0 z).2 = z := rfl;clear k01 k12 k20 h0 h1 h2;simp only [cutL, someTo, cutTo, corA, corB, cutS, sideG, hQ, levB];generalize crossK c0 c1 z = X01 at *;generalize crossK c1 c2 z = X12 at *;generalize crossK c2 c0 z = X20 at *;have d10 : ¬ c1.1 = c0.1 := fun e => d01 e.symm;have d21 : ¬ c2.1 = c1.1 := fun e => d12 e.symm;have d02 : ¬ c0.1 = c2.1 := fun e => d20 e.symm;have d01' : ¬ c0.1 = c1.1 := d01;have d12' : ¬ c1.1 = c2.1 := d12;have d20' : ¬ c2.1 = c0.1 := d20;have tri : ∀ q : Rat, q < 0 \/ q = 0 \/ 0 < q := fun q => by grind
 obtain ⟨K0, hK0⟩ : ∃ k, k = K 0 := ⟨_, rfl⟩;obtain ⟨K1, hK1⟩ : ∃ k, k = K 1 := ⟨_, rfl⟩;obtain ⟨K2, hK2⟩ : ∃ k, k = K 2 := ⟨_, rfl⟩;rcases tri (c0.2 - z) with g0 | g0 | g0 <;> rcases tri (c1.2 - z) with g1 | g1 | g1 <;> rcases tri (c2.2 - z) with g2 | g2 | g2
 all_goals
  first
   | (rw [sgn_neg g0] at *; have n0 : ¬ c0.2 = z := by grind
      have l0 : c0.2 < z := by grind
      have u0 : ¬ z < c0.2 := by grind)
   | (rw [sgn_zero g0] at *; have n0 : c0.2 = z := by grind
      have l0 : ¬ c0.2 < z := by grind
      have u0 : ¬ z < c0.2 := by grind)
   | (rw [sgn_pos g0] at *; have n0 : ¬ c0.2 = z := by grind
      have l0 : ¬ c0.2 < z := by grind
      have u0 : z < c0.2 := by grind)
  first
   | (rw [sgn_neg g1] at *; have n1 : ¬ c1.2 = z := by grind
      have l1 : c1.2 < z := by grind
      have u1 : ¬ z < c1.2 := by grind)
   | (rw [sgn_zero g1] at *; have n1 : c1.2 = z := by grind
      have l1 : ¬ c1.2 < z := by grind
      have u1 : ¬ z < c1.2 := by grind)
   | (rw [sgn_pos g1] at *; have n1 : ¬ c1.2 = z := by grind
      have l1 : ¬ c1.2 < z := by grind
      have u1 : z < c1.2 := by grind)
  first
   | (rw [sgn_neg g2] at *; have n2 : ¬ c2.2 = z := by grind
      have l2 : c2.2 < z := by grind
      have u2 : ¬ z < c2.2 := by grind)
   | (rw [sgn_zero g2] at *; have n2 : c2.2 = z := by grind
      have l2 : ¬ c2.2 < z := by grind
      have u2 : ¬ z < c2.2 := by grind)
   | (rw [sgn_pos g2] at *; have n2 : ¬ c2.2 = z := by grind
      have l2 : ¬ c2.2 < z := by grind
      have u2 : z < c2.2 := by grind)
  simp only [Int.reduceLE, Int.reduceLT, Int.reduceMul, Int.reduceNeg, decide_true, decide_false, Bool.or_true, Bool.or_false, if_false, if_pos, Bool.false_eq_true, List.nil_append, List.cons_append, List.append_nil, forall_const] at *;clear g0 g1 g2
  (try simp only [n0] at a0 b0 e0)
  (try simp only [n1] at a1 b1 e1)
  (try simp only [n2] at a2 b2 e2)
  simp [ringK, corI, sideL, <- hK0, <- hK1, <- hK2, n0, n1, n2, l0, l1, l2, u0, u1, u2, x01, x12, x20, a0, a1, a2, b0, b1, b2, e0, e1, e2, d01', d12', d20', d10, d21, d02];first
   | done
   | (unfold gQ; omega)
   | (cases K0 <;> cases K1 <;> cases K2 <;> simp [gQ] <;> omega)
   | skip
theorem perm_sum {l m : List Int} (h : l.Perm m) : l.sum = m.sum := by
 induction h with
 | nil => rfl
 | cons x _ ih => rw [List.sum_cons, List.sum_cons, ih]
 | swap x y l => rw [List.sum_cons, List.sum_cons, List.sum_cons, List.sum_cons]; omega
 | trans _ _ h1 h2 => rw [h1, h2]
theorem sum_neg {α : Type} (f : α -> Int) (l : List α) : (l.map fun x => - f x).sum = - (l.map f).sum := by
 induction l with
 | nil => rfl
 | cons x l ih => rw [List.map_cons, List.map_cons, List.sum_cons, List.sum_cons, ih]; omega
theorem sum_zero {α : Type} (f : α -> Int) (l : List α) (h : ∀ x ∈ l, f x = 0) : (l.map f).sum = 0 := by
 induction l with
 | nil => rfl
 | cons x l ih => rw [List.map_cons, List.sum_cons, h x (List.mem_cons_self ..), ih (fun y hy => h y (List.mem_cons_of_mem _ hy))]; rfl
theorem sum_split {α : Type} (f : α -> Int) (q : α -> Bool) (l : List α) : (l.map f).sum = ((l.filter q).map f).sum + ((l.filter fun x => !q x).map f).sum := by
 induction l with
 | nil => rfl
 | cons x l ih =>
   rw [List.map_cons, List.sum_cons, ih];cases hq : q x
   ·rw [List.filter_cons_of_neg (by simp [hq]), List.filter_cons_of_pos (by simp [hq]), List.map_cons, List.sum_cons]; omega
   ·rw [List.filter_cons_of_pos (by simp [hq]), List.filter_cons_of_neg (by simp [hq]), List.map_cons, List.sum_cons]; omega
theorem revE_revE (e : Edge) : revE (revE e) = e := rfl
theorem revE_inj {a b : Edge} (h : revE a = revE b) : a = b := by rw [<- revE_revE a, h, revE_revE]
theorem inv_sum (E : List Edge) (hE : E.Nodup) (c : Edge -> Int) (hr : ∀ e ∈ E, revE e ∈ E -> c (revE e) = - c e) (hb : ∀ e ∈ E, revE e ∉ E -> c e = 0) : (E.map c).sum = 0 := by
 rw [sum_split c (fun e => decide (revE e ∈ E)) E];have h2 : ((E.filter fun x => !decide (revE x ∈ E)).map c).sum = 0 := sum_zero _ _ fun e he => by
  obtain ⟨h1, h2⟩ := List.mem_filter.1 he;exact hb e h1 (by simpa using h2)
 rw [h2];obtain ⟨I, hI⟩ : ∃ I, I = E.filter fun e => decide (revE e ∈ E) := ⟨_, rfl⟩;rw [<- hI];have hm : ∀ e, e ∈ I ↔ e ∈ E /\ revE e ∈ E := fun e => by rw [hI, List.mem_filter]; simp
 have hn : I.Nodup := by rw [hI]; exact List.Pairwise.filter _ hE
 have hp : (I.map revE).Perm I := by
  refine (List.perm_ext_iff_of_nodup ?_ hn).2 fun e => ?_
  ·exact List.pairwise_map.2 (hn.imp fun h e => h (revE_inj e))
  ·rw [List.mem_map]
   constructor
   ·rintro ⟨x, hx, rfl⟩
    obtain ⟨h1, h2⟩ := (hm x).1 hx;exact (hm _).2 ⟨h2, by rw [revE_revE]; exact h1⟩
   ·intro he
    obtain ⟨h1, h2⟩ := (hm e).1 he;exact ⟨revE e, (hm _).2 ⟨h2, by rw [revE_revE]; exact h1⟩, revE_revE e⟩
 have h3 := perm_sum (hp.map c);rw [List.map_map] at h3;have h4 : (I.map (c ∘ revE)).sum = - (I.map c).sum := by
  rw [<- sum_neg];congr 1;refine List.map_congr_left fun e he => ?_;obtain ⟨h1, h2⟩ := (hm e).1 he;exact hr e h1 h2
 omega
def netL (p : PtQ) (l : List Seg) : Int := (l.map fun s => gQ p s.2.1 s.2.2).sum
theorem netL_append (p : PtQ) (a b : List Seg) : netL p (a ++ b) = netL p a + netL p b := by unfold netL; rw [List.map_append, List.sum_append]
theorem netL_seg (p : PtQ) (P : List PtQ) (T : List Tri) (F : List Rat) (z : Rat) (t : Nat) (tr : Tri) (l : List Cor) : ∀ i, netL p (segTo P T F z t tr l i) = ringK p (keepB P T F z tr) l i
 | 0 => rfl
 | i + 1 => by
   show netL p (segTo P T F z t tr l i ++ segA P T F z t tr l i) = ringK p (keepB P T F z tr) l i + (if keepB P T F z tr (corI l i) (corI l ((i + 1) % l.length)) then gQ p (corI l i).1 (corI l ((i + 1) % l.length)).1 else 0);rw [netL_append, netL_seg p P T F z t tr l i];congr 1;unfold segA;by_cases hk : keepB P T F z tr (corI l i) (corI l ((i + 1) % l.length)) = true
   ·rw [if_pos hk, if_pos hk]
    exact Int.add_zero _
   ·rw [if_neg hk, if_neg hk]; rfl
def ringT (p : PtQ) (P : List PtQ) (T : List Tri) (F : List Rat) (z : Rat) (tr : Tri) : Int := ringK p (keepB P T F z tr) (partT P F z tr) (partT P F z tr).length
theorem netL_lev (p : PtQ) (P : List PtQ) (T : List Tri) (F : List Rat) (z : Rat) : ∀ n, n <= T.length -> netL p (levTo P T F z n) = ((T.take n).map (ringT p P T F z)).sum
 | 0, _ => rfl
 | n + 1, h => by
   show netL p (levTo P T F z n ++ segTo P T F z n (triI T n) (partT P F z (triI T n)) (partT P F z (triI T n)).length) = _;rw [netL_append, netL_lev p P T F z n (by omega), netL_seg, triI_nat T n (by omega), List.take_succ_eq_append_getElem (by omega), List.map_append, List.sum_append];show _ = _ + (ringT p P T F z T[n] + 0);rw [Int.add_zero];rfl
def hasE (P : List PtQ) (T : List Tri) (F : List Rat) (z : Rat) (e : Edge) : Bool := !(partT P F z (triI T (nbI T (revE e)))).isEmpty
def keptE (P : List PtQ) (T : List Tri) (F : List Rat) (z : Rat) (e : Edge) : Bool := decide (0 <= nbI T e) && (partT P F z (triI T (nbI T e))).isEmpty
def cE (p : PtQ) (P : List PtQ) (T : List Tri) (F : List Rat) (z : Rat) (e : Edge) : Int := sideG p z (hasE P T F z e) (keptE P T F z e) (corP P F e.1) (corP P F e.2)
theorem pair_unique {α β : Type} {l : List (α × β)} (h : (l.map (·.1)).Nodup) {a : α} {b c : β} (hb : (a, b) ∈ l) (hc : (a, c) ∈ l) : b = c := by
 induction l with
 | nil => cases hb
 | cons x l ih =>
   rw [List.map_cons] at h;obtain ⟨h1, h2⟩ := List.nodup_cons.1 h;rcases List.mem_cons.1 hb with h3 | h3 <;> rcases List.mem_cons.1 hc with h4 | h4
   ·rw [<- h3] at h4; injection h4 with _ h4; exact h4.symm
   ·rw [<- h3] at h1; exact absurd (show a ∈ l.map (·.1) from List.mem_map.2 ⟨(a, c), h4, rfl⟩) h1
   ·rw [<- h4] at h1; exact absurd (show a ∈ l.map (·.1) from List.mem_map.2 ⟨(a, b), h3, rfl⟩) h1
   ·exact ih h2 h3 h4
theorem own_mem {T : List Tri} {t : Nat} (ht : t < T.length) {e : Edge} (he : e ∈ sidesOf T[t]) : (e, (t : Int)) ∈ ownL T := by
 unfold ownL;refine List.mem_flatMap.2 ⟨(T[t], t), ?_, List.mem_map.2 ⟨e, he, rfl⟩⟩;rw [List.mem_zipIdx_iff_getElem?];exact List.getElem?_eq_getElem ht
theorem nb_own {T : List Tri} (hE : (keysOf T).Nodup) {t : Nat} (ht : t < T.length) {e : Edge} (he : e ∈ sidesOf T[t]) : nbI T (revE e) = (t : Int) := by
 have h1 := own_mem ht he;have h2 : (revE (revE e), nbI T (revE e)) ∈ ownL T := nbI_some (by rw [revE_revE]; exact List.mem_map.2 ⟨_, h1, rfl⟩);rw [revE_revE] at h2;exact pair_unique (by rw [ownL_keys]; exact hE) h2 h1
theorem cE_rev {p : PtQ} {P : List PtQ} {T : List Tri} {F : List Rat} {z : Rat} {e : Edge} (h1 : e ∈ keysOf T) (h2 : revE e ∈ keysOf T) : cE p P T F z (revE e) = - cE p P T F z e := by
 have key : ∀ e : Edge, revE e ∈ keysOf T -> keptE P T F z e = !(hasE P T F z (revE e)) := fun e he => by
  have : 0 <= nbI T e := by
   obtain ⟨j, hj, -⟩ := ownL_ix (nbI_some (s := e) (by rw [ownL_keys]; exact he));dsimp only at hj;omega
  unfold keptE hasE;rw [decide_eq_true this, revE_revE, Bool.true_and, Bool.not_not]
 unfold cE;rw [key e h2, key (revE e) (by rw [revE_revE]; exact h1), revE_revE];show sideG p z _ _ (corP P F e.2) (corP P F e.1) = - sideG p z _ _ (corP P F e.1) (corP P F e.2);generalize hasE P T F z e = x;generalize hasE P T F z (revE e) = y;unfold sideG;have hl : levB z (corP P F e.2) (corP P F e.1) = levB z (corP P F e.1) (corP P F e.2) := by unfold levB; exact Bool.and_comm _ _
 rw [hl];cases hb : levB z (corP P F e.1) (corP P F e.2)
 ·have hn : ¬ ((corP P F e.1).2 = z /\ (corP P F e.2).2 = z) := fun h => by unfold levB at hb; rw [decide_eq_true h.1, decide_eq_true h.2] at hb; cases hb
  exact hQ_rev p z _ _ hn
 ·cases x <;> cases y <;> simp [gQ_rev p (corP P F e.1).1]
theorem level_net {P : List PtQ} {T : List Tri} {F : List Rat} {z : Rat} {k : Nat} (hm : MeshOK P T k) (hE : (keysOf T).Nodup) (p : PtQ)
 (hfar : ∀ e ∈ keysOf T, revE e ∉ keysOf T -> ptI P e.1 ≠ p /\ ptI P e.2 ≠ p /\ (((corP P F e.1).2 - z).num.sign * ((corP P F e.2).2 - z).num.sign < 0 -> (crossK (corP P F e.1) (corP P F e.2) z).1 ≠ p)) : netL p (levelL P T F z) = 0 := by
 have ring : ∀ t (ht : t < T.length), ringT p P T F z T[t] = - ((sidesOf T[t]).map (cE p P T F z)).sum := fun t ht => by
  have hmem : T[t] ∈ T := List.getElem_mem ht;have hA := areaQ_pos hm hmem;have h0 : areaQ (ptI P T[t].1) (ptI P T[t].2.1) (ptI P T[t].2.2) ≠ 0 := by intro e; rw [e] at hA; exact absurd hA (by decide)
  obtain ⟨e1, e2⟩ := slope_fits (a := hI F T[t].1) (b := hI F T[t].2.1) (c := hI F T[t].2.2) h0;have hn := tri_net p (corP P F T[t].1) (corP P F T[t].2.1) (corP P F T[t].2.2) z (hI F T[t].1 - (slopeT P F T[t]).1 * (ptI P T[t].1).1 - (slopeT P F T[t]).2 * (ptI P T[t].1).2) (slopeT P F T[t]).1 (slopeT P F T[t]).2 (by unfold corP; grind) (by unfold corP slopeT; grind) (by unfold corP slopeT; grind)
   (fun e => h0 (by have : ptI P T[t].1 = ptI P T[t].2.1 := e; rw [this]; unfold areaQ; grind)) (fun e => h0 (by have : ptI P T[t].2.1 = ptI P T[t].2.2 := e; rw [this]; unfold areaQ; grind)) (fun e => h0 (by have : ptI P T[t].2.2 = ptI P T[t].1 := e; rw [this]; unfold areaQ; grind))
   (fun k => decide (0 <= nbT T T[t] k) && (partT P F z (triI T (nbT T T[t] k))).isEmpty)
  have hs : ∀ e ∈ sidesOf T[t], hasE P T F z e = !(partT P F z T[t]).isEmpty := fun e he => by
   unfold hasE;rw [nb_own hE ht he, triI_nat T t ht]
  have g0 : cE p P T F z (T[t].1, T[t].2.1) = sideG p z (!(partT P F z T[t]).isEmpty) (decide (0 <= nbT T T[t] 0) && (partT P F z (triI T (nbT T T[t] 0))).isEmpty) (corP P F T[t].1) (corP P F T[t].2.1) := by
   unfold cE; rw [hs _ (by simp [sidesOf])]; rfl
  have g1 : cE p P T F z (T[t].2.1, T[t].2.2) = sideG p z (!(partT P F z T[t]).isEmpty) (decide (0 <= nbT T T[t] 1) && (partT P F z (triI T (nbT T T[t] 1))).isEmpty) (corP P F T[t].2.1) (corP P F T[t].2.2) := by
   unfold cE; rw [hs _ (by simp [sidesOf])]; rfl
  have g2 : cE p P T F z (T[t].2.2, T[t].1) = sideG p z (!(partT P F z T[t]).isEmpty) (decide (0 <= nbT T T[t] 2) && (partT P F z (triI T (nbT T T[t] 2))).isEmpty) (corP P F T[t].2.2) (corP P F T[t].1) := by
   unfold cE; rw [hs _ (by simp [sidesOf])]; rfl
  have hn' : ringT p P T F z T[t] + (cE p P T F z (T[t].1, T[t].2.1) + cE p P T F z (T[t].2.1, T[t].2.2) + cE p P T F z (T[t].2.2, T[t].1)) = 0 := by
   rw [g0, g1, g2]; exact hn
  show _ = - (cE p P T F z (T[t].1, T[t].2.1) + (cE p P T F z (T[t].2.1, T[t].2.2) + (cE p P T F z (T[t].2.2, T[t].1) + 0)));omega
 have hflat : ∀ L : List Tri, (∀ tr ∈ L, ringT p P T F z tr = - ((sidesOf tr).map (cE p P T F z)).sum) -> (L.map (ringT p P T F z)).sum = - (((L.flatMap sidesOf)).map (cE p P T F z)).sum := fun L => by
  induction L with
  | nil => intro _; rfl
  | cons x L ih =>
    intro h;rw [List.map_cons, List.sum_cons, List.flatMap_cons, List.map_append, List.sum_append, h x (List.mem_cons_self ..), ih (fun y hy => h y (List.mem_cons_of_mem _ hy))];omega
 unfold levelL;rw [netL_lev p P T F z T.length (Nat.le_refl _), List.take_length, hflat T (fun tr htr => by
  obtain ⟨t, ht, rfl⟩ := List.mem_iff_getElem.1 htr;exact ring t ht)]
 have := inv_sum (keysOf T) hE (cE p P T F z) (fun e he hr => cE_rev he hr) (fun e he hr => by
  obtain ⟨h1, h2, h3⟩ := hfar e he hr;exact sideG_far h1 h2 h3)
 unfold keysOf at this;rw [this]; rfl
def affQ (u v t : Rat) : Rat := u + t * (v - u)
def ISp (o : Option (Rat × Rat)) (Q : Rat -> Prop) : Prop :=
 match o with
 | none => ∀ t, 0 <= t -> t <= 1 -> ¬ Q t
 | some l => ∀ t, (l.1 <= t /\ t <= l.2) ↔ ((0 <= t /\ t <= 1) /\ Q t)
def cutO (o : Option (Rat × Rat)) : Option (Rat × Rat) := o.bind fun l => if l.1 < l.2 then some l else none
theorem ISp.cut {o : Option (Rat × Rat)} {Q : Rat -> Prop} (h : ISp o Q) :
 (∃ l, cutO o = some l /\ l.1 < l.2 /\ ∀ t, (l.1 <= t /\ t <= l.2) ↔ ((0 <= t /\ t <= 1) /\ Q t)) \/
 (cutO o = none /\ ∀ t t', t < t' -> (0 <= t /\ t <= 1) -> (0 <= t' /\ t' <= 1) -> Q t -> Q t' -> False) := by
 cases o with
 | none => exact .inr ⟨rfl, fun t t' _ h1 _ h3 _ => h t h1.1 h1.2 h3⟩
 | some l =>
   by_cases hl : l.1 < l.2
   ·exact .inl ⟨l, by unfold cutO; show (if l.1 < l.2 then some l else none) = _; rw [if_pos hl], hl, h⟩
   ·refine .inr ⟨by unfold cutO; show (if l.1 < l.2 then some l else none) = _; rw [if_neg hl], fun t t' h0 h1 h2 h3 h4 => ?_⟩
    have a1 := (h t).2 ⟨h1, h3⟩;have a2 := (h t').2 ⟨h2, h4⟩;grind
theorem aff_between {u v t : Rat} (h0 : 0 <= t) (h1 : t <= 1) (hu : 0 <= u) (hv : 0 <= v) : 0 <= affQ u v t := by
 have e : affQ u v t = (1 - t) * u + t * v := by unfold affQ; grind
 have a1 := Rat.mul_nonneg (show 0 <= 1 - t by grind) hu;have a2 := Rat.mul_nonneg h0 hv;rw [e]; grind
abbrev TriP := PtQ × PtQ × PtQ
def atT (a b : PtQ) (t : Rat) : PtQ := (a.1 + t * (b.1 - a.1), a.2 + t * (b.2 - a.2))
theorem area_at (p q a b : PtQ) (t : Rat) : affQ (areaQ p q a) (areaQ p q b) t = areaQ p q (atT a b t) := by
 unfold affQ areaQ atT; dsimp only; grind
def inT (c : TriP) (x : PtQ) : Prop := 0 <= areaQ c.1 c.2.1 x /\ 0 <= areaQ c.2.1 c.2.2 x /\ 0 <= areaQ c.2.2 c.1 x
structure OKs (A : List SpanQ) : Prop where
 pos : ∀ s ∈ A, s.2.1 < s.2.2
 idx : ∀ s ∈ A, ∀ t ∈ A, s.1 = t.1 -> s = t
 dis : ∀ s ∈ A, ∀ t ∈ A, s.2 = t.2 \/ s.2.2 <= t.2.1 \/ t.2.2 <= s.2.1
theorem endsS_mem {A : List SpanQ} {x : Rat} : x ∈ endsS A ↔ ∃ s ∈ A, x = s.2.1 \/ x = s.2.2 := by
 unfold endsS;rw [List.mem_flatMap];exact ⟨fun ⟨s, h1, h2⟩ => ⟨s, h1, by simpa using h2⟩, fun ⟨s, h1, h2⟩ => ⟨s, h1, by simpa using h2⟩⟩
theorem OKs.tight {A : List SpanQ} (h : OKs A) {s t : SpanQ} (hs : s ∈ A) (ht : t ∈ A) {x : Rat} (hx : x = t.2.1 \/ x = t.2.2) (h1 : s.2.1 <= x) (h2 : x <= s.2.2) : x = s.2.1 \/ x = s.2.2 := by
 have p1 := h.pos s hs;have p2 := h.pos t ht;rcases h.dis s hs t ht with e | e | e
 ·rw [e]; exact hx
 ·rcases hx with rfl | rfl <;> grind
 ·rcases hx with rfl | rfl <;> grind
theorem sorted_next {E : List Rat} (hE : E.Pairwise (· < ·)) {i j : Nat} {x y : Rat} (hx : E[i]? = some x) (hy : E[j]? = some y) (h : x < y) : i < j := by
 obtain ⟨hi, rfl⟩ := List.getElem?_eq_some_iff.1 hx;obtain ⟨hj, rfl⟩ := List.getElem?_eq_some_iff.1 hy;rcases Nat.lt_trichotomy i j with h1 | h1 | h1
 ·exact h1
 ·subst h1; exact absurd h Rat.lt_irrefl
 ·exact absurd (rat_lt_trans h (List.pairwise_iff_getElem.1 hE j i hj hi h1)) Rat.lt_irrefl
theorem OKs.next {A : List SpanQ} (h : OKs A) {s : SpanQ} (hs : s ∈ A) : ∃ j, (sortD (endsS A))[j]? = some s.2.1 /\ (sortD (endsS A))[j + 1]? = some s.2.2 := by
 have hE := sortD_pw (endsS A);have hM := sortD_mem (endsS A);generalize sortD (endsS A) = E at *;obtain ⟨i, hi⟩ := List.mem_iff_getElem?.1 ((hM s.2.1).2 (endsS_mem.2 ⟨s, hs, .inl rfl⟩));obtain ⟨j, hj⟩ := List.mem_iff_getElem?.1 ((hM s.2.2).2 (endsS_mem.2 ⟨s, hs, .inr rfl⟩));have hij := sorted_next hE hi hj (h.pos s hs);refine ⟨i, hi, ?_⟩;by_cases e : j = i + 1
 ·rw [<- e]; exact hj
 ·exfalso
  obtain ⟨hil, ei⟩ := List.getElem?_eq_some_iff.1 hi;obtain ⟨hjl, ej⟩ := List.getElem?_eq_some_iff.1 hj;have hm : i + 1 < E.length := by omega
  have l1 := List.pairwise_iff_getElem.1 hE i (i + 1) hil hm (by omega);have l2 := List.pairwise_iff_getElem.1 hE (i + 1) j hm hjl (by omega);rw [ei] at l1;rw [ej] at l2;obtain ⟨t, ht, hx⟩ := endsS_mem.1 ((hM _).1 (List.getElem_mem hm));rcases h.tight hs ht hx (Rat.le_of_lt l1) (Rat.le_of_lt l2) with e1 | e1
  ·rw [e1] at l1; exact Rat.lt_irrefl l1
  ·rw [e1] at l2; exact Rat.lt_irrefl l2
def triP (P : List PtQ) (t : Tri) : TriP := (ptI P t.1, ptI P t.2.1, ptI P t.2.2)
def sheetIn (P : List PtQ) (T : List Tri) (x : PtQ) : Prop := ∃ t ∈ T, inT (triP P t) x
theorem turnZ_nn (a b c : PtQ) : 0 <= turnZ a b c ↔ 0 <= areaQ a b c := by
 unfold turnZ;rw [sign_if];by_cases h : areaQ a b c < 0
 ·rw [if_pos h]
  exact ⟨fun h2 => absurd h2 (by decide), fun h2 => absurd h (Rat.not_lt.2 h2)⟩
 ·rw [if_neg h]
  exact ⟨fun _ => Rat.not_lt.1 h, fun _ => by split <;> decide⟩
theorem insideT_iff (P : List PtQ) (T : List Tri) (p : PtQ) (i : Nat) : insideT P T p i = true ↔ ∃ t, T[i]? = some t /\ inT (triP P t) p := by
 unfold insideT;cases h : T[i]? with
 | none => simp
 | some t =>
   simp only [Option.some.injEq, exists_eq_left'];unfold insideB inT triP;simp only [Bool.and_eq_true, decide_eq_true_eq, turnZ_nn];exact and_assoc
theorem locN_in (P : List PtQ) (T : List Tri) (p : PtQ) : (0 : Int) < ((locN P T p T.length).length : Int) ↔ sheetIn P T p := by
 have h : 0 < (locN P T p T.length).length ↔ sheetIn P T p := by
  unfold locN;rw [List.length_map];constructor
  ·intro h
   obtain ⟨i, hi⟩ := List.exists_mem_of_length_pos h;obtain ⟨_, hi⟩ := List.mem_filter.1 hi;obtain ⟨t, ht, hin⟩ := (insideT_iff P T p i).1 hi;exact ⟨t, List.mem_of_getElem? ht, hin⟩
  ·rintro ⟨t, ht, hin⟩
   obtain ⟨i, hi, rfl⟩ := List.mem_iff_getElem.1 ht;exact List.length_pos_of_mem (List.mem_filter.2 ⟨List.mem_range.2 hi, (insideT_iff P T p i).2 ⟨_, List.getElem?_eq_getElem hi, hin⟩⟩)
 rw [<- h]; omega
theorem turn_nn (a b c : PtQ) : 0 <= turnZ a b c ↔ 0 <= areaQ a b c := by
 unfold turnZ;rw [sign_if];by_cases h : areaQ a b c < 0
 ·rw [if_pos h]
  exact ⟨fun h2 => absurd h2 (by decide), fun h2 => absurd h (Rat.not_lt.2 h2)⟩
 ·rw [if_neg h]
  exact ⟨fun _ => Rat.not_lt.1 h, fun _ => by split <;> decide⟩
theorem turn_np (a b c : PtQ) : turnZ a b c <= 0 ↔ areaQ a b c <= 0 := by
 unfold turnZ;rw [sign_if];by_cases h : areaQ a b c < 0
 ·rw [if_pos h]
  exact ⟨fun _ => Rat.le_of_lt h, fun _ => by decide⟩
 ·rw [if_neg h]
  by_cases h2 : 0 < areaQ a b c
  ·rw [if_pos h2]
   exact ⟨fun h3 => absurd h3 (by decide), fun h3 => absurd h2 (Rat.not_lt.2 h3)⟩
  ·rw [if_neg h2]
   exact ⟨fun _ => Rat.not_lt.1 h2, fun _ => by decide⟩
theorem turn_neg (a b c : PtQ) : turnZ a b c < 0 ↔ areaQ a b c < 0 := by
 unfold turnZ;rw [sign_if];by_cases h : areaQ a b c < 0
 ·rw [if_pos h]
  exact ⟨fun _ => h, fun _ => by decide⟩
 ·rw [if_neg h]
  refine ⟨fun h3 => ?_, fun h3 => absurd h3 h⟩;split at h3 <;> exact absurd h3 (by decide)
def sideC (tr : Tri) : List (Int × Int) := [(tr.1, tr.2.1), (tr.2.1, tr.2.2), (tr.2.2, tr.1)]
def sepOne (P : List PtQ) (x y : Tri) : Bool := (sideC x).any fun s => (idxOf y).all fun c => decide (turnZ (ptI P s.1) (ptI P s.2) (ptI P c) <= 0) && (decide (turnZ (ptI P s.1) (ptI P s.2) (ptI P c) < 0) || (idxOf x).contains c)
def sepB (P : List PtQ) (T : List Tri) : Bool := T.all fun x => T.all fun y => decide (x = y) || sepOne P x y || sepOne P y x
theorem shape_sepB (k : Nat) : sepB (shapeQ k) (shapeT k) = true := by
 unfold shapeQ shapeP shapeT;split <;> decide +kernel
theorem baryA (a b c0 c1 c2 p : PtQ) : areaQ c0 c1 c2 * areaQ a b p = areaQ c1 c2 p * areaQ a b c0 + areaQ c2 c0 p * areaQ a b c1 + areaQ c0 c1 p * areaQ a b c2 := by
 unfold areaQ;grind
theorem baryA_on (P : List PtQ) (F : List Rat) (tr : Tri) (c0 c1 c2 p : PtQ) : areaQ c0 c1 c2 * onQ P F tr p = areaQ c1 c2 p * onQ P F tr c0 + areaQ c2 c0 p * onQ P F tr c1 + areaQ c0 c1 p * onQ P F tr c2 := by
 unfold onQ areaQ;generalize slopeT P F tr = S;generalize hI F tr.1 = f;generalize ptI P tr.1 = o;grind
theorem three_zero {x y z : Rat} (hx : x <= 0) (hy : y <= 0) (hz : z <= 0) (h : 0 <= x + y + z) : x = 0 /\ y = 0 /\ z = 0 := ⟨by grind, by grind, by grind⟩
theorem mul_np {x y : Rat} (hx : 0 <= x) (hy : y <= 0) : x * y <= 0 := by
 have := Rat.mul_nonneg hx (show 0 <= -y by grind);grind
theorem agree_of_sep {P : List PtQ} {F : List Rat} {x y : Tri} (hx : 0 < areaQ (ptI P x.1) (ptI P x.2.1) (ptI P x.2.2)) (hy : 0 < areaQ (ptI P y.1) (ptI P y.2.1) (ptI P y.2.2)) (h : sepOne P x y = true) {p : PtQ}
 (px : insideB (ptI P x.1) (ptI P x.2.1) (ptI P x.2.2) p = true) (py : insideB (ptI P y.1) (ptI P y.2.1) (ptI P y.2.2) p = true) : onQ P F x p = onQ P F y p := by
 unfold insideB at px py;simp only [Bool.and_eq_true, decide_eq_true_eq, turn_nn] at px py;obtain ⟨⟨x0, x1⟩, x2⟩ := px;obtain ⟨⟨y0, y1⟩, y2⟩ := py;unfold sepOne at h;rw [List.any_eq_true] at h;obtain ⟨s, hs, h⟩ := h;have hab : 0 <= areaQ (ptI P s.1) (ptI P s.2) p := by
  simp only [sideC, List.mem_cons, List.not_mem_nil, or_false] at hs;rcases hs with rfl | rfl | rfl
  ·exact x0
  ·exact x1
  ·exact x2
 rw [List.all_eq_true] at h;have hc : ∀ c ∈ idxOf y, areaQ (ptI P s.1) (ptI P s.2) (ptI P c) <= 0 /\ (areaQ (ptI P s.1) (ptI P s.2) (ptI P c) = 0 -> onQ P F x (ptI P c) = onQ P F y (ptI P c)) := fun c hcy => by
  have h1 := h c hcy;rw [Bool.and_eq_true, Bool.or_eq_true, decide_eq_true_eq, decide_eq_true_eq, turn_np, turn_neg] at h1;refine ⟨h1.1, fun e => ?_⟩;rcases h1.2 with h2 | h2
  ·rw [e] at h2; exact absurd h2 (by decide)
  ·have hcx : c ∈ idxOf x := by simpa using h2
   rw [onQ_corner (by intro e; rw [e] at hx; exact absurd hx (by decide)) hcx, onQ_corner (by intro e; rw [e] at hy; exact absurd hy (by decide)) hcy]
 obtain ⟨a0, e0⟩ := hc y.1 (by simp [idxOf]);obtain ⟨a1, e1⟩ := hc y.2.1 (by simp [idxOf]);obtain ⟨a2, e2⟩ := hc y.2.2 (by simp [idxOf]);have hb := baryA (ptI P s.1) (ptI P s.2) (ptI P y.1) (ptI P y.2.1) (ptI P y.2.2) p;have hpos : 0 <= areaQ (ptI P y.1) (ptI P y.2.1) (ptI P y.2.2) * areaQ (ptI P s.1) (ptI P s.2) p := Rat.mul_nonneg (Rat.le_of_lt hy) hab;rw [hb] at hpos;obtain ⟨z0, z1, z2⟩ := three_zero (mul_np y1 a0) (mul_np y2 a1) (mul_np y0 a2) hpos;have key : ∀ {w v : Rat} {c : Int}, w * v = 0 -> (v = 0 -> onQ P F x (ptI P c) = onQ P F y (ptI P c)) -> w * onQ P F x (ptI P c) = w * onQ P F y (ptI P c) := fun hz he => by
  rcases Rat.mul_eq_zero.1 hz with h | h
  ·rw [h, Rat.zero_mul, Rat.zero_mul]
  ·rw [he h]
 have b1 := baryA_on P F x (ptI P y.1) (ptI P y.2.1) (ptI P y.2.2) p;have b2 := baryA_on P F y (ptI P y.1) (ptI P y.2.1) (ptI P y.2.2) p;rw [key z0 e0, key z1 e1, key z2 e2, <- b2] at b1;generalize areaQ (ptI P y.1) (ptI P y.2.1) (ptI P y.2.2) = A at *;have e : A * (onQ P F x p - onQ P F y p) = 0 := by grind
 rcases Rat.mul_eq_zero.1 e with h | h
 ·rw [h] at hy; exact absurd hy (by decide)
 ·grind
theorem sep_move {s t d : Rat} (hd : 0 < d) {P : List PtQ} {x y : Tri} (hx : ∀ i ∈ idxOf x, 0 <= i /\ i < (P.length : Int)) (hy : ∀ i ∈ idxOf y, 0 <= i /\ i < (P.length : Int)) (h : sepOne P x y = true) : sepOne (P.map (moveP s t d)) x y = true := by
 unfold sepOne at h ⊢;rw [List.any_eq_true] at h ⊢;obtain ⟨e, he, h⟩ := h;refine ⟨e, he, ?_⟩;rw [List.all_eq_true] at h ⊢;intro c hc;have h1 := h c hc;have q1 : e.1 ∈ idxOf x /\ e.2 ∈ idxOf x := by
  simp only [sideC, List.mem_cons, List.not_mem_nil, or_false] at he;rcases he with rfl | rfl | rfl <;> simp [idxOf]
 rw [ptI_move (hx _ q1.1).1 (hx _ q1.1).2, ptI_move (hx _ q1.2).1 (hx _ q1.2).2, ptI_move (hy c hc).1 (hy c hc).2, turnZ_move _ _ _ hd];exact h1
theorem sheet_agree (k : Nat) (s0 s1 : Int) (half : Bool) (F : List Rat) {x y : Tri} (hx : x ∈ shapeT k) (hy : y ∈ shapeT k) {p : PtQ}
 (px : insideB (ptI (sheetP k s0 s1 half) x.1) (ptI (sheetP k s0 s1 half) x.2.1) (ptI (sheetP k s0 s1 half) x.2.2) p = true) (py : insideB (ptI (sheetP k s0 s1 half) y.1) (ptI (sheetP k s0 s1 half) y.2.1) (ptI (sheetP k s0 s1 half) y.2.2) p = true) :
 onQ (sheetP k s0 s1 half) F x p = onQ (sheetP k s0 s1 half) F y p := by
 have hok := sheet_ok k s0 s1 half;have ax := areaQ_pos hok hx;have ay := areaQ_pos hok hy;have hsep := shape_sepB k;unfold sepB at hsep;rw [List.all_eq_true] at hsep;have h1 := hsep x hx;rw [List.all_eq_true] at h1;have h2 := h1 y hy;rw [Bool.or_eq_true, Bool.or_eq_true, decide_eq_true_eq] at h2;have hd : (0 : Rat) < 1 / (halfD half : Rat) := by cases half <;> decide +kernel
 have hidx := hok.idx;have hlen : (sheetP k s0 s1 half).length = (shapeQ k).length := by rw [sheet_moved]; exact List.length_map ..
 rw [hlen] at hidx;rcases h2 with (rfl | h2) | h2
 ·rfl
 ·refine agree_of_sep ax ay ?_ px py
  rw [sheet_moved];exact sep_move hd (hidx x hx) (hidx y hy) h2
 ·refine (agree_of_sep ay ax ?_ py px).symm
  rw [sheet_moved];exact sep_move hd (hidx y hy) (hidx x hx) h2
theorem part_plane {P : List PtQ} {F : List Rat} {tr : Tri} {z : Rat} (hA : areaQ (ptI P tr.1) (ptI P tr.2.1) (ptI P tr.2.2) ≠ 0) : ∀ a ∈ partT P F z tr, a.2 = onQ P F tr a.1 := by
 obtain ⟨e1, e2⟩ := slope_fits (a := hI F tr.1) (b := hI F tr.2.1) (c := hI F tr.2.2) hA;have := cutTo_plane (corP P F tr.1) (corP P F tr.2.1) (corP P F tr.2.2) z (hI F tr.1 - (slopeT P F tr).1 * (ptI P tr.1).1 - (slopeT P F tr).2 * (ptI P tr.1).2) (slopeT P F tr).1 (slopeT P F tr).2 (by unfold corP; grind) (by unfold corP slopeT; grind) (by unfold corP slopeT; grind);intro a ha;rw [this a ha];unfold onQ;grind
def insQ (a b x : Rat) : Bool := decide (cmpQ x a * cmpQ x b <= 0)
def btwQ (a b p : PtQ) : Bool := decide (turnZ a b p = 0) && (insQ a.1 b.1 p.1 && insQ a.2 b.2 p.2)
theorem insQ_tow (a b s : Rat) (h0 : 0 <= s) (h1 : s <= 1) : insQ a b (towQ a b s) = true := by
 unfold insQ;rw [decide_eq_true_eq];have e1 : towQ a b s - a = s * (b - a) := by unfold towQ; grind
 have e2 : b - towQ a b s = (1 - s) * (b - a) := by unfold towQ; grind
 have key : (towQ a b s - a) * (b - towQ a b s) = s * (1 - s) * ((b - a) * (b - a)) := by rw [e1, e2]; grind
 have hs : 0 <= s * (1 - s) := Rat.mul_nonneg h0 (by grind);have hq : 0 <= (b - a) * (b - a) := by
  rcases (by grind : 0 <= b - a \/ b - a < 0) with h | h
  ·exact Rat.mul_nonneg h h
  ·have := Rat.mul_nonneg (show 0 <= -(b - a) by grind) (show 0 <= -(b - a) by grind); grind
 have hp := Rat.mul_nonneg hs hq;rw [<- key] at hp;generalize towQ a b s = x at *;rcases cmpQ_cases x a with ⟨h, e⟩ | ⟨h, e⟩ | ⟨h, e⟩ <;> rcases cmpQ_cases x b with ⟨g, f⟩ | ⟨g, f⟩ | ⟨g, f⟩ <;> rw [e, f] <;> first | decide | skip
 ·exfalso
  have := Rat.mul_pos (show 0 < a - x by grind) (show 0 < b - x by grind);grind
 ·exfalso
  have := Rat.mul_pos (show 0 < x - a by grind) (show 0 < x - b by grind);grind
theorem btwQ_tow (a b : PtQ) (s : Rat) (h0 : 0 <= s) (h1 : s <= 1) : btwQ a b (towQ a.1 b.1 s, towQ a.2 b.2 s) = true := by
 unfold btwQ;rw [insQ_tow a.1 b.1 s h0 h1, insQ_tow a.2 b.2 s h0 h1];have : areaQ a b (towQ a.1 b.1 s, towQ a.2 b.2 s) = 0 := by unfold areaQ towQ; grind
 unfold turnZ;rw [this];decide +kernel
theorem btwQ_one (a b : PtQ) : btwQ a b a = true := by
 have := btwQ_tow a b 0 (by grind) (by grind);have e : ((towQ a.1 b.1 0, towQ a.2 b.2 0) : PtQ) = a := Prod.ext (by unfold towQ; grind) (by unfold towQ; grind);rwa [e] at this
theorem btwQ_two (a b : PtQ) : btwQ a b b = true := by
 have := btwQ_tow a b 1 (by grind) (by grind);have e : ((towQ a.1 b.1 1, towQ a.2 b.2 1) : PtQ) = b := Prod.ext (by unfold towQ; grind) (by unfold towQ; grind);rwa [e] at this
theorem shape_nodup (k : Nat) : (keysOf (shapeT k)).Nodup := by unfold shapeT; split <;> decide
def bdI (T : List Tri) (i : Nat) : Int := (outerL (keysOf T))[i]?.getD 0
def bdB (T : List Tri) : Bool := (keysOf T).all fun e => (keysOf T).contains (revE e) || (List.range (outerL (keysOf T)).length).any fun i => decide (bdI T i = e.1) && decide (bdI T ((i + 1) % (outerL (keysOf T)).length) = e.2)
theorem shape_bdB (k : Nat) : bdB (shapeT k) = true := by unfold shapeT; split <;> decide +kernel
theorem shape_border (k : Nat) {e : Edge} (h1 : e ∈ keysOf (shapeT k)) (h2 : revE e ∉ keysOf (shapeT k)) : ∃ i, i < (outerL (keysOf (shapeT k))).length /\ bdI (shapeT k) i = e.1 /\ bdI (shapeT k) ((i + 1) % (outerL (keysOf (shapeT k))).length) = e.2 := by
 have h := shape_bdB k;unfold bdB at h;rw [List.all_eq_true] at h;have := h e h1;rw [Bool.or_eq_true] at this;rcases this with h3 | h3
 ·exact absurd (by simpa using h3) h2
 ·rw [List.any_eq_true] at h3
  obtain ⟨i, hi, h4⟩ := h3;rw [Bool.and_eq_true, decide_eq_true_eq, decide_eq_true_eq] at h4;exact ⟨i, List.mem_range.1 hi, h4⟩
theorem sheet_net (k : Nat) (s0 s1 : Int) (half : Bool) (F : List Rat) (z : Rat) (p : PtQ) (hout : ∀ i, i < (outerL (keysOf (shapeT k))).length -> btwQ (ptI (sheetP k s0 s1 half) (bdI (shapeT k) i)) (ptI (sheetP k s0 s1 half) (bdI (shapeT k) ((i + 1) % (outerL (keysOf (shapeT k))).length))) p = false) :
 netL p (levelL (sheetP k s0 s1 half) (shapeT k) F z) = 0 := by
 refine level_net (sheet_ok k s0 s1 half) (shape_nodup k) p fun e h1 h2 => ?_;obtain ⟨i, hi, g1, g2⟩ := shape_border k h1 h2;have hn := hout i hi;rw [g1, g2] at hn;refine ⟨fun e1 => ?_, fun e2 => ?_, fun hs e3 => ?_⟩
 ·rw [<- e1, btwQ_one] at hn; cases hn
 ·rw [<- e2, btwQ_two] at hn; cases hn
 ·obtain ⟨t0, t1, -⟩ := cross_share hs
  have := btwQ_tow (ptI (sheetP k s0 s1 half) e.1) (ptI (sheetP k s0 s1 half) e.2) _ (Rat.le_of_lt t0) (Rat.le_of_lt t1);unfold crossK corP at e3;dsimp only at e3 this;unfold corP at this;rw [e3, hn] at this;cases this
theorem cutL_ind {c0 c1 c2 : Cor} {z : Rat} (C : Cor -> Prop) (h0 : C c0) (h1 : C c1) (h2 : C c2) (hx : ∀ a b, C a -> C b -> (a.2 - z).num.sign * (b.2 - z).num.sign < 0 -> C (crossK a b z)) : ∀ c ∈ cutL c0 c1 c2 z, C c := fun c hc => by
 have step : ∀ a b, C a -> C b -> ∀ x ∈ cutS a b z, C x := fun a b ha hb x hx' => by
  unfold cutS at hx';rcases List.mem_append.1 hx' with h | h
  ·split at h
   ·rw [List.mem_singleton.1 h]; exact ha
   ·cases h
  ·split at h
   ·rename_i hs
    rw [List.mem_singleton.1 h]; exact hx a b ha hb hs
   ·cases h
 unfold cutL at hc;split at hc
 ·unfold cutTo cutTo cutTo cutTo corA corB at hc
  simp only [List.nil_append, List.mem_append] at hc;rcases hc with (hc | hc) | hc
  ·exact step _ _ h0 h1 _ hc
  ·exact step _ _ h1 h2 _ hc
  ·exact step _ _ h2 h0 _ hc
 ·cases hc
theorem inT_at {c : TriP} {a b : PtQ} {s : Rat} (ha : inT c a) (hb : inT c b) (h0 : 0 <= s) (h1 : s <= 1) : inT c (atT a b s) := by
 unfold inT at *;rw [<- area_at, <- area_at, <- area_at];exact ⟨aff_between h0 h1 ha.1 hb.1, aff_between h0 h1 ha.2.1 hb.2.1, aff_between h0 h1 ha.2.2 hb.2.2⟩
theorem part_in {P : List PtQ} {F : List Rat} {tr : Tri} {z : Rat} (hA : 0 < areaQ (ptI P tr.1) (ptI P tr.2.1) (ptI P tr.2.2)) : ∀ c ∈ partT P F z tr, inT (triP P tr) c.1 := by
 have e1 : areaQ (ptI P tr.2.1) (ptI P tr.2.2) (ptI P tr.1) = areaQ (ptI P tr.1) (ptI P tr.2.1) (ptI P tr.2.2) := by unfold areaQ; grind
 have e2 : areaQ (ptI P tr.2.2) (ptI P tr.1) (ptI P tr.2.1) = areaQ (ptI P tr.1) (ptI P tr.2.1) (ptI P tr.2.2) := by unfold areaQ; grind
 have z1 : ∀ a b : PtQ, areaQ a b a = 0 := fun a b => by unfold areaQ; grind
 have z2 : ∀ a b : PtQ, areaQ a b b = 0 := fun a b => by unfold areaQ; grind
 refine cutL_ind (fun c => inT (triP P tr) c.1) ?_ ?_ ?_ (fun a b ha hb hs => ?_)
 ·show inT (triP P tr) (ptI P tr.1)
  unfold inT triP;dsimp only;rw [z1, z2, e1];exact ⟨Rat.le_refl, Rat.le_of_lt hA, Rat.le_refl⟩
 ·show inT (triP P tr) (ptI P tr.2.1)
  unfold inT triP;dsimp only;rw [z1, z2, e2];exact ⟨Rat.le_refl, Rat.le_refl, Rat.le_of_lt hA⟩
 ·show inT (triP P tr) (ptI P tr.2.2)
  unfold inT triP;dsimp only;rw [z1, z2];exact ⟨Rat.le_of_lt hA, Rat.le_refl, Rat.le_refl⟩
 ·obtain ⟨t0, t1, -⟩ := cross_share hs
  exact inT_at ha hb (Rat.le_of_lt t0) (Rat.le_of_lt t1)
theorem levTo_mem {P : List PtQ} {T : List Tri} {F : List Rat} {z : Rat} : ∀ n, n <= T.length -> ∀ s ∈ levTo P T F z n, ∃ tr ∈ T, ∃ a ∈ partT P F z tr, ∃ b ∈ partT P F z tr, s.2.1 = a.1 /\ s.2.2 = b.1 /\ a.2 = z /\ b.2 = z
 | 0, _, s, hs => by cases hs
 | n + 1, hn, s, hs => by
   unfold levTo at hs;rcases List.mem_append.1 hs with h | h
   ·exact levTo_mem n (by omega) s h
   ·have htr : triI T n ∈ T := by rw [triI_nat T n (by omega)]; exact List.getElem_mem _
    refine ⟨triI T n, htr, ?_⟩;generalize triI T n = tr at *;obtain ⟨l, hl⟩ : ∃ l, l = partT P F z tr := ⟨_, rfl⟩;rw [<- hl] at h ⊢;have key : ∀ i, i <= l.length -> ∀ s ∈ segTo P T F z n tr l i, ∃ a ∈ l, ∃ b ∈ l, s.2.1 = a.1 /\ s.2.2 = b.1 /\ a.2 = z /\ b.2 = z := by
     intro i
     induction i with
     | zero => intro _ s hs; cases hs
     | succ i ih =>
       intro hi s hs;unfold segTo at hs;rcases List.mem_append.1 hs with h | h
       ·exact ih (by omega) s h
       ·unfold segA at h
        split at h
        ·rename_i hk
         rw [List.mem_singleton.1 h];unfold keepB at hk;rw [Bool.and_eq_true, Bool.and_eq_true, decide_eq_true_eq, decide_eq_true_eq] at hk;have hm : (i + 1) % l.length < l.length := Nat.mod_lt _ (by omega);refine ⟨corI l i, ?_, corI l ((i + 1) % l.length), ?_, rfl, rfl, hk.1.1, hk.1.2⟩
         ·rw [corI_nat l i (by omega)]; exact List.getElem_mem _
         ·rw [corI_nat l _ hm]; exact List.getElem_mem _
        ·cases h
    exact key l.length (Nat.le_refl _) s h
theorem levelL_mem {P : List PtQ} {T : List Tri} {F : List Rat} {z : Rat} {k : Nat} (hm : MeshOK P T k) {s : Seg} (hs : s ∈ levelL P T F z) :
 ∃ tr ∈ T, inT (triP P tr) s.2.1 /\ onQ P F tr s.2.1 = z /\ inT (triP P tr) s.2.2 /\ onQ P F tr s.2.2 = z := by
 obtain ⟨tr, htr, a, ha, b, hb, e1, e2, g1, g2⟩ := levTo_mem T.length (Nat.le_refl _) s hs;have hA := areaQ_pos hm htr;have h0 : areaQ (ptI P tr.1) (ptI P tr.2.1) (ptI P tr.2.2) ≠ 0 := by intro e; rw [e] at hA; exact absurd hA (by decide)
 refine ⟨tr, htr, ?_, ?_, ?_, ?_⟩
 ·rw [e1]; exact part_in hA a ha
 ·rw [e1, <- part_plane h0 a ha]; exact g1
 ·rw [e2]; exact part_in hA b hb
 ·rw [e2, <- part_plane h0 b hb]; exact g2
def AffI (L : PtQ -> Rat) (e : Int) (C : Nat) : Prop := e ≠ 0 /\ e.natAbs <= C /\ ∃ α β γ : Int, α.natAbs <= C /\ β.natAbs <= C /\ γ.natAbs <= C /\ ∀ x : PtQ, L x * (e : Rat) = (α : Rat) + (β : Rat) * x.1 + (γ : Rat) * x.2
theorem AffI.at {L : PtQ -> Rat} {e : Int} {C m : Nat} (h : AffI L e C) {a : PtQ} (za : SzP m a) : ∃ n : Int, n.natAbs <= 3 * (C * (10 ^ m * 10 ^ m)) /\ L a * (e : Rat) * ((a.1.den : Rat) * (a.2.den : Rat)) = (n : Rat) := by
 obtain ⟨-, -, α, β, γ, h1, h2, h3, h4⟩ := h;obtain ⟨⟨x1, x2⟩, y1, y2⟩ := za;have e1 := num_den a.1;have e2 := num_den a.2;refine ⟨α * (a.1.den * a.2.den) + β * (a.1.num * a.2.den) + γ * (a.2.num * a.1.den), ?_, ?_⟩
 ·have t1 : (α * ((a.1.den : Int) * a.2.den)).natAbs <= C * (10 ^ m * 10 ^ m) := by
   rw [Int.natAbs_mul, Int.natAbs_mul];exact Nat.mul_le_mul h1 (Nat.mul_le_mul (Nat.le_of_lt x2) (Nat.le_of_lt y2))
  have t2 : (β * (a.1.num * a.2.den)).natAbs <= C * (10 ^ m * 10 ^ m) := by
   rw [Int.natAbs_mul, Int.natAbs_mul];exact Nat.mul_le_mul h2 (Nat.mul_le_mul (Nat.le_of_lt x1) (Nat.le_of_lt y2))
  have t3 : (γ * (a.2.num * a.1.den)).natAbs <= C * (10 ^ m * 10 ^ m) := by
   rw [Int.natAbs_mul, Int.natAbs_mul];exact Nat.mul_le_mul h3 (Nat.mul_le_mul (Nat.le_of_lt y1) (Nat.le_of_lt x2))
  have s1 := Int.natAbs_add_le (α * ((a.1.den : Int) * a.2.den) + β * (a.1.num * a.2.den)) (γ * (a.2.num * a.1.den));have s2 := Int.natAbs_add_le (α * ((a.1.den : Int) * a.2.den)) (β * (a.1.num * a.2.den));generalize C * (10 ^ m * 10 ^ m) = K at *;omega
 ·rw [h4, Rat.intCast_add, Rat.intCast_add, Rat.intCast_mul, Rat.intCast_mul, Rat.intCast_mul, Rat.intCast_mul, Rat.intCast_mul, Rat.intCast_mul, e1, e2]
  have c1 : ((a.1.den : Int) : Rat) = (a.1.den : Rat) := rfl;have c2 : ((a.2.den : Int) : Rat) = (a.2.den : Rat) := rfl;rw [c1, c2];grind
theorem locN_agree {P : List PtQ} {T : List Tri} {p : PtQ} {t : Nat} {l : List Int} (h : locN P T p T.length = (t : Int) :: l) (ht : t < T.length) : insideB (ptI P T[t].1) (ptI P T[t].2.1) (ptI P T[t].2.2) p = true := by
 have hm : ((t : Nat) : Int) ∈ locN P T p T.length := by rw [h]; exact List.mem_cons_self ..
 unfold locN at hm;obtain ⟨i, hi, he⟩ := List.mem_map.1 hm;have : i = t := by omega
 subst this;have := (List.mem_filter.1 hi).2;unfold insideT at this;rw [List.getElem?_eq_getElem ht] at this;exact this
theorem minor05_any (a b c d : Rat) (k : Nat) (hk : 0 < k) (hk2 : k <= 4000) (ha : Sz k a) (hb : Sz k b) (hc : Sz k c) (hd : Sz k d) (w : World) (hg : Good w) :
 Calls Tryz.prog 134 #[.string (RS a), .string (RS b), .string (RS c), .string (RS d)] w (Ret (fun r _ => r = .string (RS (a * b - c * d))) w) := by
 have H1 := hid fun w hg => mulQ_any a b k hk (by omega) ha hb w hg
 have H2 := hid fun w hg => mulQ_any c d k hk (by omega) hc hd w hg
 have z1 : Sz (2 * k) (a * b) := (ha.mul hb).mono (by omega);have z2 : Sz (2 * k) (c * d) := (hc.mul hd).mono (by omega);have H3 := hid fun w hg => subQ_any (a * b) (c * d) (2 * k) (by omega) (by omega) z1 z2 w hg
 generalize a * b = x at *;generalize c * d = y at *;clear ha hb hc hd z1 z2;go_enter Tryz.func134, Tryz.ntmps134;go_wp2_with fail;refine (H1.out w hg).mono ?_;rintro e w1 ⟨_, rfl, rfl, hb1⟩;go_wp2_with fail;refine (H2.out w1 (hg.below hb1)).mono ?_;rintro e w2 ⟨_, rfl, rfl, hb2⟩;have hB2 := hb1.trans (hb2.mono hb1.size);go_wp2_with fail;refine (H3.out w2 (hg.below hB2)).mono ?_;rintro e w3 ⟨_, rfl, rfl, hb3⟩;go_wp2_with fail;go_ret;exact ⟨_, rfl, rfl, hB2.trans (hb3.mono hB2.size)⟩
theorem area05_any (a b c : PtQ) (k : Nat) (hk : 0 < k) (hk2 : k <= 1000) (ha : SzP k a) (hb : SzP k b) (hc : SzP k c) (w : World) (hg : Good w) :
 Calls Tryz.prog 81 #[VP a, VP b, VP c] w (Ret (fun r _ => r = .string (RS (areaQ a b c))) w) := by
 obtain ⟨W, hW, ⟨a0, a1⟩, ⟨b0, b1⟩, ⟨c0, c1⟩, hbW, hsz⟩ := three_boxes w a b c 50;have hgW := hg.below hbW;obtain ⟨ax, ay⟩ := a;obtain ⟨bx, bY⟩ := b;obtain ⟨cx, cy⟩ := c;unfold VP areaQ;dsimp only [SzP] at *;have HW := hid hW;have H1 := hid fun w hg => subQ_any bx ax k hk (by omega) hb.1 ha.1 w hg
 have H2 := hid fun w hg => subQ_any cy ay k hk (by omega) hc.2 ha.2 w hg
 have H3 := hid fun w hg => subQ_any bY ay k hk (by omega) hb.2 ha.2 w hg
 have H4 := hid fun w hg => subQ_any cx ax k hk (by omega) hc.1 ha.1 w hg
 have d1 : Sz (2 * k + 1) (bx - ax) := (hb.1.sub ha.1).mono (by omega);have d2 : Sz (2 * k + 1) (cy - ay) := (hc.2.sub ha.2).mono (by omega);have d3 : Sz (2 * k + 1) (bY - ay) := (hb.2.sub ha.2).mono (by omega);have d4 : Sz (2 * k + 1) (cx - ax) := (hc.1.sub ha.1).mono (by omega);have H5 := hid fun w hg => minor05_any (bx - ax) (cy - ay) (bY - ay) (cx - ax) (2 * k + 1) (by omega) (by omega) d1 d2 d3 d4 w hg
 generalize bx - ax = x1 at *;generalize cy - ay = x2 at *;generalize bY - ay = x3 at *;generalize cx - ax = x4 at *;clear hW ha hb hc d1 d2 d3 d4;go_enter Tryz.func81, Tryz.ntmps81;have hgd : Good W.drew := hgW.drewN 1;go_upto_region 1 with fail;rw [<- HW.out];go_region_held3 (fun w' => w'.cell? ⟨w.heap.size, 0, none⟩ = some (.string (RS ax)) /\ w'.cell? ⟨w.heap.size, 1, none⟩ = some (.string (RS ay)) /\ w'.cell? ⟨w.heap.size + 1, 0, none⟩ = some (.string (RS bx)) /\ w'.cell? ⟨w.heap.size + 1, 1, none⟩ = some (.string (RS bY)) /\ w'.cell? ⟨w.heap.size + 2, 0, none⟩ = some (.string (RS cx)) /\ w'.cell? ⟨w.heap.size + 2, 1, none⟩ = some (.string (RS cy)))
  (first | exact ⟨a0, a1, b0, b1, c0, c1⟩ | exact ⟨p_1_0, p_1_1, p_1_2, p_1_3, p_1_4, p_1_5⟩ | exact ⟨p_2_0, p_2_1, p_2_2, p_2_3, p_2_4, p_2_5⟩ | exact ⟨p_3_0, p_3_1, p_3_2, p_3_3, p_3_4, p_3_5⟩ | exact ⟨p_4_0, p_4_1, p_4_2, p_4_3, p_4_4, p_4_5⟩ | exact ⟨p_5_0, p_5_1, p_5_2, p_5_3, p_5_4, p_5_5⟩)
  (first
  | (go_at_call 134; refine (H5.out _ pg4).mono ?_; rintro e pw5 ⟨_, rfl, rfl, pb5⟩
     have p_5_0 := zct pb5 p_4_0;have p_5_1 := zct pb5 p_4_1;have p_5_2 := zct pb5 p_4_2;have p_5_3 := zct pb5 p_4_3;have p_5_4 := zct pb5 p_4_4;have p_5_5 := zct pb5 p_4_5;have ps5 := pb5.size;have pg5 := pg4.below pb5)
  | (go_at_call 49; refine (H4.out _ pg3).mono ?_; rintro e pw4 ⟨_, rfl, rfl, pb4⟩
     have p_4_0 := zct pb4 p_3_0;have p_4_1 := zct pb4 p_3_1;have p_4_2 := zct pb4 p_3_2;have p_4_3 := zct pb4 p_3_3;have p_4_4 := zct pb4 p_3_4;have p_4_5 := zct pb4 p_3_5;have ps4 := pb4.size;have pg4 := pg3.below pb4)
  | (go_at_call 49; refine (H3.out _ pg2).mono ?_; rintro e pw3 ⟨_, rfl, rfl, pb3⟩
     have p_3_0 := zct pb3 p_2_0;have p_3_1 := zct pb3 p_2_1;have p_3_2 := zct pb3 p_2_2;have p_3_3 := zct pb3 p_2_3;have p_3_4 := zct pb3 p_2_4;have p_3_5 := zct pb3 p_2_5;have ps3 := pb3.size;have pg3 := pg2.below pb3)
  | (go_at_call 49; refine (H2.out _ pg1).mono ?_; rintro e pw2 ⟨_, rfl, rfl, pb2⟩
     have p_2_0 := zct pb2 p_1_0;have p_2_1 := zct pb2 p_1_1;have p_2_2 := zct pb2 p_1_2;have p_2_3 := zct pb2 p_1_3;have p_2_4 := zct pb2 p_1_4;have p_2_5 := zct pb2 p_1_5;have ps2 := pb2.size;have pg2 := pg1.below pb2)
  | (go_at_call 49; refine (H1.out _ hgd).mono ?_; rintro e pw1 ⟨_, rfl, rfl, pb1⟩
     have p_1_0 := zct pb1 a0;have p_1_1 := zct pb1 a1;have p_1_2 := zct pb1 b0;have p_1_3 := zct pb1 b1;have p_1_4 := zct pb1 c0;have p_1_5 := zct pb1 c1;have ps1 : W.heap.size <= pw1.heap.size := pb1.size;have pg1 := hgd.below pb1))
 have pB : Below W.heap.size W pw5 := zbt (zbt (zbt (zbt (zbt (below_drewN W 1) pb1) pb2) pb3) pb4) pb5;have hB7 := hbW.trans (pB.mono hbW.size);go_wp2_with fail;go_ret;exact ⟨_, rfl, rfl, hB7⟩
theorem ptF_sz {P : List PtQ} {m : Nat} (h : ∀ p ∈ P, SzP m p) (hk : 0 < m) (z : Int) : SzP m (ptI P z) := by
 unfold ptI;rcases Nat.lt_or_ge z.toNat P.length with h1 | h1
 ·rw [List.getElem?_eq_getElem h1]; exact h _ (List.getElem_mem h1)
 ·rw [List.getElem?_eq_none h1]; exact ⟨Sz.zero _ hk, Sz.zero _ hk⟩
theorem sheet_value (k : Nat) (s0 s1 : Int) (half : Bool) (F : List Rat) {z : Rat} {p : PtQ} {tr : Tri} (htr : tr ∈ shapeT k) (hin : inT (triP (sheetP k s0 s1 half) tr) p) (hv : onQ (sheetP k s0 s1 half) F tr p = z) :
 ∃ (t : Nat) (ht : t < (shapeT k).length) (l : List Int), locN (sheetP k s0 s1 half) (shapeT k) p (shapeT k).length = (t : Int) :: l /\ onQ (sheetP k s0 s1 half) F (shapeT k)[t] p = z := by
 have h1 := (locN_in (sheetP k s0 s1 half) (shapeT k) p).2 ⟨tr, htr, hin⟩;cases hl : locN (sheetP k s0 s1 half) (shapeT k) p (shapeT k).length with
 | nil => rw [hl] at h1; exact absurd h1 (by decide)
 | cons y l =>
   have hy : y ∈ locN (sheetP k s0 s1 half) (shapeT k) p (shapeT k).length := by rw [hl]; exact List.mem_cons_self ..
   obtain ⟨t, ht, rfl⟩ : ∃ t : Nat, t < (shapeT k).length /\ y = (t : Int) := by
    unfold locN at hy;obtain ⟨t, ht, rfl⟩ := List.mem_map.1 hy;exact ⟨t, List.mem_range.1 (List.mem_filter.1 ht).1, rfl⟩
   refine ⟨t, ht, l, rfl, ?_⟩;rw [<- hv];obtain ⟨i, hi, rfl⟩ := List.mem_iff_getElem.1 htr;have hins : insideB (ptI (sheetP k s0 s1 half) (shapeT k)[i].1) (ptI (sheetP k s0 s1 half) (shapeT k)[i].2.1) (ptI (sheetP k s0 s1 half) (shapeT k)[i].2.2) p = true := by
    have h := (insideT_iff (sheetP k s0 s1 half) (shapeT k) p i).2 ⟨_, List.getElem?_eq_getElem hi, hin⟩;unfold insideT at h;rw [List.getElem?_eq_getElem hi] at h;exact h
   exact sheet_agree k s0 s1 half F (List.getElem_mem ht) (List.getElem_mem hi) (locN_agree hl ht) hins
theorem levelL_Sz {P : List PtQ} {T : List Tri} {F : List Rat} {z : Rat} {m : Nat} (hm : MeshOK P T 2) (hF : ∀ q ∈ F, Sz 2 q) (hz : Sz m z) {s : Seg} (hs : s ∈ levelL P T F z) : SzP (16 + m) s.2.1 /\ SzP (16 + m) s.2.2 := by
 obtain ⟨tr, htr, a, ha, b, hb, e1, e2, -, -⟩ := levTo_mem T.length (Nat.le_refl _) s hs;have hsz : ∀ x ∈ idxOf tr, SzP 2 (ptI P x) /\ Sz 2 (hI F x) := fun x _ => ⟨ptF_sz hm.sz (by omega) _, hI_Sz (by omega) hF _⟩
 have h1 := (partT_Sz2 hsz hz a ha).1;have h2 := (partT_Sz2 hsz hz b hb).1;rw [e1, e2];exact ⟨⟨h1.1.mono (by omega), h1.2.mono (by omega)⟩, ⟨h2.1.mono (by omega), h2.2.mono (by omega)⟩⟩
def netTo (p : PtQ) (l : List Seg) (k : Nat) : Int := netL p (l.take k)
theorem netTo_zero (p : PtQ) (l : List Seg) : netTo p l 0 = 0 := rfl
theorem netTo_next {p : PtQ} {l : List Seg} {k : Nat} (h : k < l.length) : netTo p l (k + 1) = netTo p l k + gQ p l[k].2.1 l[k].2.2 := by
 unfold netTo;rw [List.take_succ_eq_append_getElem h, netL_append];congr 1;exact Int.add_zero _
theorem netTo_all (p : PtQ) (l : List Seg) : netTo p l l.length = netL p l := by unfold netTo; rw [List.take_length]
theorem netTo_bound (p : PtQ) (l : List Seg) : ∀ k, k <= l.length -> -(k : Int) <= netTo p l k /\ netTo p l k <= k
 | 0, _ => by rw [netTo_zero]; exact ⟨by omega, by omega⟩
 | k + 1, h => by
   have := netTo_bound p l k (by omega);rw [netTo_next (by omega)];unfold gQ dQ;split <;> split <;> omega
end Go.Proofs.YtbfcmipplhkkeaaGreatDoor
