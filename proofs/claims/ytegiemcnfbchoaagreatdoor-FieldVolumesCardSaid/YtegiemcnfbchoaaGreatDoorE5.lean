import Derived.Test.YtegiemcnfbchoaaGreatDoorF31
import Derived.Deep.MidRow
/- Plain klippelaw38.ThicknessVertical returns true at every plan and place The walk over mesh.Neighbours. -/
set_option maxHeartbeats 4000000
set_option maxRecDepth 100000
namespace Go.Proofs.YtegiemcnfbchoaaGreatDoor
open Go.RowKit Go.Lib
theorem cancel_nat {x : Rat} {q : Nat} (hq : 0 < q) (h : x * (q : Rat) = 0) : x = 0 := by
 rcases Rat.mul_eq_zero.1 h with h | h
 ·exact h
 ·have : q = 0 := by exact_mod_cast h
  omega
structure TriI (A x y w : Rat) (a h0 h1 h2 p : Int) (q : Nat) : Prop where
 hq : 0 < q
 hA : A * 4 = (a : Rat)
 hx : x * (2 * (q : Rat)) = (h0 : Rat) * (q : Rat) - 2 * (p : Rat)
 hy : y * (2 * (q : Rat)) = (h1 : Rat) * (q : Rat) - 2 * (p : Rat)
 hw : w * (2 * (q : Rat)) = (h2 : Rat) * (q : Rat) - 2 * (p : Rat)
theorem TriI.turn {A x y w : Rat} {a h0 h1 h2 p : Int} {q : Nat} (h : TriI A x y w a h0 h1 h2 p q) : TriI A y w x a h1 h2 h0 p q := ⟨h.hq, h.hA, h.hy, h.hw, h.hx⟩
section
variable {A x y w V : Rat} {a h0 h1 h2 p : Int} {q : Nat}
theorem TriI.dif (h : TriI A x y w a h0 h1 h2 p q) : (x - y) * 2 = (h0 : Rat) - (h1 : Rat) /\ (x - w) * 2 = (h0 : Rat) - (h2 : Rat) := by
 have h1' := h.hx;have h2' := h.hy;have h3' := h.hw;constructor
 ·have := cancel_nat (x := (x - y) * 2 - ((h0 : Rat) - (h1 : Rat))) h.hq (by grind)
  grind
 ·have := cancel_nat (x := (x - w) * 2 - ((h0 : Rat) - (h2 : Rat))) h.hq (by grind)
  grind
theorem TriI.cap (h : TriI A x y w a h0 h1 h2 p q) {r s : Rat} (hr : r * (x - y) = x) (hs : s * (x - w) = x) (hV : 6 * V = A * (x * r * s)) :
 V * (48 * (q : Rat) * q * q * (((h0 - h1) * (h0 - h2) : Int) : Rat)) = ((a * ((h0 * q - 2 * p) * (h0 * q - 2 * p) * (h0 * q - 2 * p)) : Int) : Rat) := by
 obtain ⟨d1, d2⟩ := h.dif;have hx := h.hx;have hA := h.hA;have e1 : (((h0 - h1) * (h0 - h2) : Int) : Rat) = ((h0 : Rat) - (h1 : Rat)) * ((h0 : Rat) - (h2 : Rat)) := by rw [Rat.intCast_mul, Rat.intCast_sub, Rat.intCast_sub]
 have e2 : ((a * ((h0 * q - 2 * p) * (h0 * q - 2 * p) * (h0 * q - 2 * p)) : Int) : Rat) = (a : Rat) * (((h0 : Rat) * (q : Rat) - 2 * (p : Rat)) * ((h0 : Rat) * (q : Rat) - 2 * (p : Rat)) * ((h0 : Rat) * (q : Rat) - 2 * (p : Rat))) := by
  rw [Rat.intCast_mul, Rat.intCast_mul, Rat.intCast_mul, Rat.intCast_sub, Rat.intCast_mul, Rat.intCast_mul]; rfl
 rw [e1, e2, <- hx, <- hA, <- d1, <- d2];have r1 : r * ((x - y) * 2) = 2 * x := by grind
 have s1 : s * ((x - w) * 2) = 2 * x := by grind
 have g : V * (48 * (q : Rat) * q * q * ((x - y) * 2 * ((x - w) * 2))) = 8 * q * q * q * (6 * V) * ((x - y) * 2) * ((x - w) * 2) := by grind
 rw [g, hV];have g2 : 8 * (q : Rat) * q * q * (A * (x * r * s)) * ((x - y) * 2) * ((x - w) * 2) = 8 * q * q * q * A * x * (r * ((x - y) * 2)) * (s * ((x - w) * 2)) := by grind
 rw [g2, r1, s1];grind
theorem TriI.whole (h : TriI A x y w a h0 h1 h2 p q) (hV : 6 * V = A * (x + y + w)) :
 V * (48 * (q : Rat)) = ((a * ((h0 + h1 + h2) * q - 6 * p) : Int) : Rat) := by
 have hx := h.hx;have hy := h.hy;have hw := h.hw;have hA := h.hA;have e2 : ((a * ((h0 + h1 + h2) * q - 6 * p) : Int) : Rat) = (a : Rat) * (((h0 : Rat) + (h1 : Rat) + (h2 : Rat)) * (q : Rat) - 6 * (p : Rat)) := by
  rw [Rat.intCast_mul, Rat.intCast_sub, Rat.intCast_mul, Rat.intCast_mul, Rat.intCast_add, Rat.intCast_add]; rfl
 have g : V * (48 * (q : Rat)) = 8 * q * (6 * V) := by grind
 rw [e2, g, hV, <- hA];grind
theorem TriI.not (h : TriI A x y w a h0 h1 h2 p q) {r s : Rat} (hr : r * (x - y) = x) (hs : s * (x - w) = x) (hV : 6 * V = A * (x + y + w) - A * (x * r * s)) :
 V * (48 * (q : Rat) * q * q * (((h0 - h1) * (h0 - h2) : Int) : Rat)) = ((a * ((h0 + h1 + h2) * q - 6 * p) * (q * q * ((h0 - h1) * (h0 - h2))) - a * ((h0 * q - 2 * p) * (h0 * q - 2 * p) * (h0 * q - 2 * p)) : Int) : Rat) := by
 have c1 := h.cap (V := A * (x * r * s) / 6) hr hs (by grind);have c2 := h.whole (V := A * (x + y + w) / 6) (by grind);have e : V = A * (x + y + w) / 6 - A * (x * r * s) / 6 := by grind
 generalize a * ((h0 + h1 + h2) * q - 6 * p) = X at *;generalize (h0 - h1) * (h0 - h2) = D at *;rw [Rat.intCast_sub, <- c1, Rat.intCast_mul, <- c2, Rat.intCast_mul, Rat.intCast_mul, e];have e3 : (((q : Nat) : Int) : Rat) = (q : Rat) := rfl;rw [e3];generalize A * (x + y + w) / 6 = V1;generalize A * (x * r * s) / 6 = V2;grind
end
theorem natAbs3 (a b c : Int) {A B C : Nat} (h1 : a.natAbs <= A) (h2 : b.natAbs <= B) (h3 : c.natAbs <= C) : (a * b * c).natAbs <= A * B * C := by
 rw [Int.natAbs_mul, Int.natAbs_mul];exact Nat.mul_le_mul (Nat.mul_le_mul h1 h2) h3
end Go.Proofs.YtegiemcnfbchoaaGreatDoor
namespace Go.Proofs.YtegiemcnfbchoaaGreatDoor
open Go.RowKit Go.Lib
theorem int_pos_of_rat {n : Int} (h : (0 : Rat) < (n : Rat)) : 0 < n := by
 have : ((0 : Int) : Rat) < (n : Rat) := h;exact Rat.intCast_lt_intCast.1 this
theorem int_neg_of_rat {n : Int} (h : (n : Rat) < 0) : n < 0 := by
 have : (n : Rat) < ((0 : Int) : Rat) := h;exact Rat.intCast_lt_intCast.1 this
section
variable {A x y w V : Rat} {a h0 h1 h2 p : Int} {q : Nat}
theorem TriI.dpos (h : TriI A x y w a h0 h1 h2 p q) (hs : (y < x /\ w < x) \/ (x < y /\ x < w)) : 0 < (h0 - h1) * (h0 - h2) := by
 obtain ⟨d1, d2⟩ := h.dif;have e1 : ((h0 - h1 : Int) : Rat) = (x - y) * 2 := by rw [Rat.intCast_sub, d1]
 have e2 : ((h0 - h2 : Int) : Rat) = (x - w) * 2 := by rw [Rat.intCast_sub, d2]
 rcases hs with ⟨s1, s2⟩ | ⟨s1, s2⟩
 ·exact Int.mul_pos (int_pos_of_rat (by rw [e1]; grind)) (int_pos_of_rat (by rw [e2]; grind))
 ·exact Int.mul_pos_of_neg_of_neg (int_neg_of_rat (by rw [e1]; grind)) (int_neg_of_rat (by rw [e2]; grind))
def NumP (V : Rat) (q : Nat) : Prop := ∃ D N : Int, 0 < D /\ D.natAbs <= 23104 /\ N.natAbs <= 1000000000000 * (q * q * q) /\ V * (48 * (q : Rat) * q * q * (D : Rat)) = (N : Rat)
theorem num_bounds (ha : a.natAbs <= 5408) (b0 : h0.natAbs <= 76) (b1 : h1.natAbs <= 76) (b2 : h2.natAbs <= 76) (bp : p.natAbs <= 76 * q) :
 (a * ((h0 * q - 2 * p) * (h0 * q - 2 * p) * (h0 * q - 2 * p))).natAbs <= 100000000000 * (q * q * q) /\ (a * ((h0 + h1 + h2) * q - 6 * p) * (q * q * ((h0 - h1) * (h0 - h2)))).natAbs <= 100000000000 * (q * q * q) /\ (a * ((h0 + h1 + h2) * q - 6 * p) * (q * q)).natAbs <= 100000000000 * (q * q * q) /\ ((h0 - h1) * (h0 - h2)).natAbs <= 23104 := by
 have u0 : (h0 * q - 2 * p).natAbs <= 228 * q := by
  have := Int.natAbs_sub_le (h0 * q) (2 * p);rw [Int.natAbs_mul, Int.natAbs_mul] at this;have h3 : h0.natAbs * ((q : Int).natAbs) <= 76 * q := Nat.mul_le_mul b0 (by omega);have h4 : (2 : Int).natAbs = 2 := rfl;rw [h4] at this;omega
 have us : ((h0 + h1 + h2) * q - 6 * p).natAbs <= 684 * q := by
  have := Int.natAbs_sub_le ((h0 + h1 + h2) * q) (6 * p);rw [Int.natAbs_mul, Int.natAbs_mul] at this;have h3 : (h0 + h1 + h2).natAbs * ((q : Int).natAbs) <= 228 * q := Nat.mul_le_mul (by omega) (by omega);have h4 : (6 : Int).natAbs = 6 := rfl;rw [h4] at this;omega
 have d1 : (h0 - h1).natAbs <= 152 := by omega
 have d2 : (h0 - h2).natAbs <= 152 := by omega
 have dd : ((h0 - h1) * (h0 - h2)).natAbs <= 152 * 152 := by rw [Int.natAbs_mul]; exact Nat.mul_le_mul d1 d2
 have qq : ((q : Int) * q).natAbs = q * q := by rw [Int.natAbs_mul]; rfl
 refine ⟨?_, ?_, ?_, by omega⟩
 ·rw [Int.natAbs_mul]
  refine Nat.le_trans (Nat.mul_le_mul ha (natAbs3 _ _ _ u0 u0 u0)) ?_;have : 5408 * (228 * q * (228 * q) * (228 * q)) = (5408 * 228 * 228 * 228) * (q * q * q) := by grind
  rw [this];exact Nat.mul_le_mul_right _ (by decide)
 ·refine Nat.le_trans (natAbs3 _ _ _ ha us (C := q * q * (152 * 152)) ?_) ?_
  ·rw [Int.natAbs_mul, qq]; exact Nat.mul_le_mul_left _ dd
  ·have : 5408 * (684 * q) * (q * q * (152 * 152)) = (5408 * 684 * (152 * 152)) * (q * q * q) := by grind
   rw [this];exact Nat.mul_le_mul_right _ (by decide)
 ·refine Nat.le_trans (natAbs3 _ _ _ ha us (C := q * q) (by rw [qq]; exact Nat.le_refl _)) ?_
  have : 5408 * (684 * q) * (q * q) = (5408 * 684) * (q * q * q) := by grind
  rw [this];exact Nat.mul_le_mul_right _ (by decide)
theorem TriI.capnot (h : TriI A x y w a h0 h1 h2 p q) (hv : CapP A x y w V \/ NotP A x y w V) (ha : a.natAbs <= 5408) (b0 : h0.natAbs <= 76) (b1 : h1.natAbs <= 76) (b2 : h2.natAbs <= 76) (bp : p.natAbs <= 76 * q) : NumP V q := by
 obtain ⟨n1, n2, -, n4⟩ := num_bounds (q := q) ha b0 b1 b2 bp;rcases hv with ⟨-, g1, g2, g3, r, s, hr, hs, hV⟩ | ⟨-, g1, g2, g3, r, s, hr, hs, hV⟩
 ·exact ⟨_, _, h.dpos (.inl ⟨by grind, by grind⟩), n4, by omega, h.cap hr hs hV⟩
 ·refine ⟨_, _, h.dpos (.inr ⟨by grind, by grind⟩), n4, ?_, h.not hr hs hV⟩
  refine Nat.le_trans (Int.natAbs_sub_le _ _) ?_;omega
theorem TriI.num (h : TriI A x y w a h0 h1 h2 p q) (hv : VolP A x y w V) (ha : a.natAbs <= 5408) (b0 : h0.natAbs <= 76) (b1 : h1.natAbs <= 76) (b2 : h2.natAbs <= 76) (bp : p.natAbs <= 76 * q) : NumP V q := by
 rcases hv with ⟨-, -, -, rfl⟩ | ⟨-, -, -, hV⟩ | hv | hv | hv
 ·exact ⟨1, 0, by decide, by decide, by simp, by grind⟩
 ·obtain ⟨-, -, n3, -⟩ := num_bounds (q := q) ha b0 b1 b2 bp
  refine ⟨1, _, by decide, by decide, Nat.le_trans n3 (by omega), ?_⟩;have c := h.whole hV;rw [Rat.intCast_mul, <- c, Rat.intCast_mul];have e3 : (((q : Nat) : Int) : Rat) = (q : Rat) := rfl;have e4 : ((1 : Int) : Rat) = 1 := rfl;rw [e3, e4];grind
 ·exact h.capnot hv ha b0 b1 b2 bp
 ·exact h.turn.capnot hv ha b1 b2 b0 bp
 ·exact h.turn.turn.capnot hv ha b2 b0 b1 bp
def FarP (V : Rat) (p : Int) (q : Nat) : Prop := ∃ N : Int, N.natAbs <= 5408 * (228 * q + 6 * p.natAbs) /\ V * (48 * (q : Rat)) = (N : Rat)
theorem TriI.far (h : TriI A x y w a h0 h1 h2 p q) (hv : VolP A x y w V) (ha : a.natAbs <= 5408) (b0 : h0.natAbs <= 76) (b1 : h1.natAbs <= 76) (b2 : h2.natAbs <= 76) (hs : (x < 0 /\ y < 0 /\ w < 0) \/ (0 < x /\ 0 < y /\ 0 < w)) : FarP V p q := by
 rcases hv with ⟨-, -, -, rfl⟩ | ⟨-, -, -, hV⟩ | hv | hv | hv
 ·exact ⟨0, by simp, by grind⟩
 ·refine ⟨_, ?_, h.whole hV⟩
  rw [Int.natAbs_mul];refine Nat.mul_le_mul ha ?_;have := Int.natAbs_sub_le ((h0 + h1 + h2) * q) (6 * p);rw [Int.natAbs_mul, Int.natAbs_mul] at this;have h3 : (h0 + h1 + h2).natAbs * ((q : Int).natAbs) <= 228 * q := Nat.mul_le_mul (by omega) (by omega);have h4 : (6 : Int).natAbs = 6 := rfl;rw [h4] at this;omega
 ·exfalso
  rcases hv with ⟨g0, g1, g2, g3, -⟩ | ⟨g0, g1, g2, g3, -⟩ <;> grind
 ·exfalso
  rcases hv with ⟨g0, g1, g2, g3, -⟩ | ⟨g0, g1, g2, g3, -⟩ <;> grind
 ·exfalso
  rcases hv with ⟨g0, g1, g2, g3, -⟩ | ⟨g0, g1, g2, g3, -⟩ <;> grind
end
theorem volTo_num {P : List PtQ} {T : List Tri} {F : List Rat} {z : Rat} {q : Nat} (h : ∀ t, t < T.length -> NumP (integ (partT P F z (triI T t)) z) q) : ∀ t, t <= T.length -> ∃ D N : Int, 0 < D /\ D.natAbs <= 23104 ^ t /\ N.natAbs <= t * (1000000000000 * (q * q * q)) * 23104 ^ t /\ volTo P T F z t * (48 * (q : Rat) * q * q * (D : Rat)) = (N : Rat)
 | 0, _ => ⟨1, 0, by decide, by decide, by simp, by show (0 : Rat) * _ = _; grind⟩
 | t + 1, ht => by
   obtain ⟨D, N, d0, d1, n1, e1⟩ := volTo_num h t (by omega);obtain ⟨D', N', d0', d1', n1', e1'⟩ := h t (by omega);refine ⟨D * D', N * D' + N' * D, Int.mul_pos d0 d0', ?_, ?_, ?_⟩
   ·rw [Int.natAbs_mul, Nat.pow_succ]; exact Nat.mul_le_mul d1 d1'
   ·refine Nat.le_trans (Int.natAbs_add_le _ _) ?_
    rw [Int.natAbs_mul, Int.natAbs_mul, Nat.pow_succ];have a1 := Nat.mul_le_mul n1 d1';have a2 := Nat.mul_le_mul n1' d1;generalize 1000000000000 * (q * q * q) = K at *;generalize 23104 ^ t = E at *;have e : (t + 1) * K * (E * 23104) = t * K * E * 23104 + K * E * 23104 := by grind
    rw [e];have a3 : K * E <= K * E * 23104 := Nat.le_mul_of_pos_right _ (by decide);omega
   ·show (volTo P T F z t + integ (partT P F z (triI T t)) z) * _ = _
    rw [Rat.intCast_add, Rat.intCast_mul, Rat.intCast_mul, Rat.intCast_mul, <- e1, <- e1'];grind
theorem volTo_far {P : List PtQ} {T : List Tri} {F : List Rat} {z : Rat} {p : Int} {q : Nat} (h : ∀ t, t < T.length -> FarP (integ (partT P F z (triI T t)) z) p q) : ∀ t, t <= T.length -> ∃ N : Int, N.natAbs <= t * (5408 * (228 * q + 6 * p.natAbs)) /\ volTo P T F z t * (48 * (q : Rat)) = (N : Rat)
 | 0, _ => ⟨0, by simp, by show (0 : Rat) * _ = _; grind⟩
 | t + 1, ht => by
   obtain ⟨N, n1, e1⟩ := volTo_far h t (by omega);obtain ⟨N', n1', e1'⟩ := h t (by omega);refine ⟨N + N', ?_, ?_⟩
   ·refine Nat.le_trans (Int.natAbs_add_le _ _) ?_
    rw [Nat.succ_mul];omega
   ·show (volTo P T F z t + integ (partT P F z (triI T t)) z) * _ = _
    rw [Rat.intCast_add, <- e1, <- e1'];grind
end Go.Proofs.YtegiemcnfbchoaaGreatDoor
namespace Go.Proofs.YtegiemcnfbchoaaGreatDoor
open Go.RowKit Go.Lib
def Fr (d B : Nat) (q : Rat) : Prop := ∃ n : Int, q * (d : Rat) = (n : Rat) /\ n.natAbs <= B
theorem Fr.zero (d B : Nat) : Fr d B 0 := ⟨0, by grind, by simp⟩
theorem Fr.mono {d B C : Nat} {q : Rat} (h : Fr d B q) (hBC : B <= C) : Fr d C q := by
 obtain ⟨n, h1, h2⟩ := h;exact ⟨n, h1, Nat.le_trans h2 hBC⟩
theorem Fr.add {d A B : Nat} {p q : Rat} (hp : Fr d A p) (hq : Fr d B q) : Fr d (A + B) (p + q) := by
 obtain ⟨m, h1, h2⟩ := hp;obtain ⟨n, h3, h4⟩ := hq;exact ⟨m + n, by rw [Rat.intCast_add]; grind, by omega⟩
theorem Fr.sub {d A B : Nat} {p q : Rat} (hp : Fr d A p) (hq : Fr d B q) : Fr d (A + B) (p - q) := by
 obtain ⟨m, h1, h2⟩ := hp;obtain ⟨n, h3, h4⟩ := hq;exact ⟨m - n, by rw [Rat.intCast_sub]; grind, by omega⟩
theorem Fr.mul {d e A B : Nat} {p q : Rat} (hp : Fr d A p) (hq : Fr e B q) : Fr (d * e) (A * B) (p * q) := by
 obtain ⟨m, h1, h2⟩ := hp;obtain ⟨n, h3, h4⟩ := hq;refine ⟨m * n, ?_, ?_⟩
 ·rw [Rat.intCast_mul, Rat.natCast_mul, <- h1, <- h3]
  grind
 ·rw [Int.natAbs_mul]
  exact Nat.mul_le_mul h2 h4
theorem sz_of_div {m n : Int} {k : Nat} (hn : n ≠ 0) (hm : m.natAbs < 10 ^ k) (hn2 : n.natAbs < 10 ^ k) {q : Rat} (h : q * (n : Rat) = (m : Rat)) : Sz k q := by
 have hn' : (n : Rat) ≠ 0 := by simpa using hn
 have e : q = mkRat (if 0 < n then m else -m) n.natAbs := by
  rw [Rat.mkRat_eq_div];rcases Int.lt_or_lt_of_ne hn with h0 | h0
  ·rw [if_neg (by omega)]
   have : ((n.natAbs : Nat) : Rat) = -(n : Rat) := by
    have h1 : ((n.natAbs : Nat) : Int) = -n := by omega
    have : (((n.natAbs : Nat) : Int) : Rat) = ((-n : Int) : Rat) := by rw [h1]
    rw [Rat.intCast_neg] at this;exact this
   rw [this, Rat.intCast_neg, <- h];grind
  ·rw [if_pos h0]
   have : ((n.natAbs : Nat) : Rat) = (n : Rat) := by
    have h1 : ((n.natAbs : Nat) : Int) = n := by omega
    have : (((n.natAbs : Nat) : Int) : Rat) = ((n : Int) : Rat) := by rw [h1]
    exact this
   rw [this, <- h];grind
 rw [e];exact Sz.mkRat (by omega) (by split <;> omega) hn2
theorem fr_mkRat (n : Int) (d e B : Nat) (hd : d ≠ 0) (he : d ∣ e) (hB : n.natAbs * (e / d) <= B) : Fr e B (mkRat n d) := by
 obtain ⟨c, rfl⟩ := he;have h0 : (d : Rat) ≠ 0 := by simpa using hd
 rw [Nat.mul_div_cancel_left c (by omega)] at hB;refine ⟨n * c, ?_, by rw [Int.natAbs_mul]; simpa using hB⟩;rw [Rat.mkRat_eq_div, Rat.natCast_mul, Rat.intCast_mul];have : ((c : Int) : Rat) = (c : Rat) := rfl;rw [this];grind
theorem fr_place (s : Int) (half : Bool) (x : Int) (hx : 0 <= x /\ x <= 6) : Fr 2 26 (placeQ s half x) := by
 have := tmod8_bound s;unfold placeQ;cases half
 ·exact fr_mkRat _ 1 2 26 (by decide) (by decide) (by show (x + s.tmod 8).natAbs * 2 <= 26; omega)
 ·exact fr_mkRat _ 2 2 26 (by decide) (by decide) (by show (x + s.tmod 8).natAbs * 1 <= 26; omega)
theorem fr_height (hs : List Int) (half : Bool) (n : Nat) : ∀ q ∈ heightsF hs half n, Fr 2 38 q := fun q hq => by
 obtain ⟨i, _, rfl⟩ := List.mem_map.1 hq;unfold heightQ;have := tmod20_bound (hs[i % 6]?.getD 0);cases half
 ·exact fr_mkRat _ 1 2 38 (by decide) (by decide) (by show ((hs[i % 6]?.getD 0).tmod 20).natAbs * 2 <= 38; omega)
 ·exact fr_mkRat _ 2 2 38 (by decide) (by decide) (by show ((hs[i % 6]?.getD 0).tmod 20).natAbs * 1 <= 38; omega)
def FrP (d B : Nat) (p : PtQ) : Prop := Fr d B p.1 /\ Fr d B p.2
theorem fr_sheet (k : Nat) (s0 s1 : Int) (half : Bool) : ∀ p ∈ sheetP k s0 s1 half, FrP 2 26 p := fun p hp => by
 obtain ⟨q, hq, rfl⟩ := List.mem_map.1 hp;have := shapeP_small k q hq;exact ⟨fr_place _ _ _ this.1, fr_place _ _ _ this.2⟩
theorem fr_area {P : List PtQ} {T : List Tri} (hp : ∀ p ∈ P, FrP 2 26 p) (hidx : ∀ t ∈ T, ∀ x ∈ idxOf t, 0 <= x /\ x < (P.length : Int)) {tr : Tri} (htr : tr ∈ T) : Fr 4 5408 (areaT P tr) := by
 have key : ∀ z ∈ idxOf tr, FrP 2 26 (ptI P z) := fun z hz => by
  obtain ⟨h0, h1⟩ := hidx tr htr z hz;obtain ⟨q, rfl⟩ : ∃ q : Nat, z = (q : Int) := ⟨z.toNat, by omega⟩;rw [ptI_nat P q (by omega)];exact hp _ (List.getElem_mem _)
 have h0 := key tr.1 (by simp [idxOf]);have h1 := key tr.2.1 (by simp [idxOf]);have h2 := key tr.2.2 (by simp [idxOf]);unfold areaT areaQ;exact (((h1.1.sub h0.1).mul (h2.2.sub h0.2)).sub ((h1.2.sub h0.2).mul (h2.1.sub h0.1))).mono (by decide)
theorem fr_hI {d B : Nat} {F : List Rat} (h : ∀ q ∈ F, Fr d B q) (z : Int) : Fr d B (hI F z) := by
 unfold hI;cases e : F[z.toNat]? with
 | none => exact Fr.zero d B
 | some q => exact h q (List.mem_of_getElem? e)
theorem sz_of_whole {V : Rat} {e n : Int} {k : Nat} (he : 0 < e) (hek : e.natAbs < 10 ^ k) (hn : n.natAbs < 10 ^ k) (h : V * (e : Rat) = (n : Rat)) : Sz k V :=
 sz_of_div2 (n := e) (m := n) (by omega) hn hek h
theorem vol_Sz {P : List PtQ} {T : List Tri} {F : List Rat} {z : Rat} (hp : ∀ p ∈ P, FrP 2 26 p) (hidx : ∀ t ∈ T, ∀ x ∈ idxOf t, 0 <= x /\ x < (P.length : Int)) (hF : ∀ f ∈ F, Fr 2 76 f) (hT : T.length <= 8) (hz : Sz 40 z) : Sz 200 (volTo P T F z T.length) := by
 have hq : 0 < z.den := Nat.pos_of_ne_zero z.den_nz;have hzq : z * (z.den : Rat) = (z.num : Rat) := (num_den z).symm;have key : ∀ t, t < T.length -> ∃ (A x y w : Rat) (a h0 h1 h2 : Int), TriI A x y w a h0 h1 h2 z.num z.den /\ VolP A x y w (integ (partT P F z (triI T t)) z) /\ a.natAbs <= 5408 /\ h0.natAbs <= 76 /\ h1.natAbs <= 76 /\ h2.natAbs <= 76 /\ x * 2 = (h0 : Rat) - 2 * z /\ y * 2 = (h1 : Rat) - 2 * z /\ w * 2 = (h2 : Rat) - 2 * z := fun t ht => by
  have htr : triI T (t : Int) = T[t] := triI_nat T t ht;have hmem : T[t] ∈ T := List.getElem_mem ht;obtain ⟨a, ea, ba⟩ := fr_area hp hidx hmem;obtain ⟨h0, e0, b0⟩ := fr_hI hF T[t].1;obtain ⟨h1, e1, b1⟩ := fr_hI hF T[t].2.1;obtain ⟨h2, e2, b2⟩ := fr_hI hF T[t].2.2;have hv := integ_forms (corP P F T[t].1) (corP P F T[t].2.1) (corP P F T[t].2.2) z;have n2 : ((2 : Nat) : Rat) = 2 := rfl;have n4 : ((4 : Nat) : Rat) = 4 := rfl;rw [n4] at ea;rw [n2] at e0 e1 e2;refine ⟨areaT P T[t], hI F T[t].1 - z, hI F T[t].2.1 - z, hI F T[t].2.2 - z, a, h0, h1, h2, ⟨hq, ea, ?_, ?_, ?_⟩, ?_, ba, b0, b1, b2, by grind, by grind, by grind⟩
  ·grind
  ·grind
  ·grind
  ·rw [htr]; exact hv
 have hzn := hz.1;have hzd := hz.2;rcases Nat.lt_or_ge (76 * z.den) z.num.natAbs with hfar | hnear
 ·have hs : (38 : Rat) < z \/ z < -38 := by
   have hqr : (0 : Rat) < (z.den : Rat) := by exact_mod_cast hq
   by_cases h : (38 : Rat) < z
   ·exact .inl h
   ·refine .inr (Rat.not_le.1 fun h2 => ?_)
    have u1 : z * (z.den : Rat) <= 38 * (z.den : Rat) := Rat.mul_le_mul_of_nonneg_right (Rat.not_lt.1 h) (Rat.le_of_lt hqr);have u2 : -38 * (z.den : Rat) <= z * (z.den : Rat) := Rat.mul_le_mul_of_nonneg_right h2 (Rat.le_of_lt hqr);rw [hzq] at u1 u2;have c1 : (z.num : Rat) <= ((38 * (z.den : Int) : Int) : Rat) := by rw [Rat.intCast_mul]; exact u1
    have c2 : ((-38 * (z.den : Int) : Int) : Rat) <= (z.num : Rat) := by rw [Rat.intCast_mul]; exact u2
    have d1 := Rat.intCast_le_intCast.1 c1;have d2 := Rat.intCast_le_intCast.1 c2;omega
  have hb : ∀ h : Int, h.natAbs <= 76 -> (-76 : Rat) <= (h : Rat) /\ (h : Rat) <= 76 := fun h hh => by
   have c1 : ((-76 : Int) : Rat) <= (h : Rat) := Rat.intCast_le_intCast.2 (by omega);have c2 : (h : Rat) <= ((76 : Int) : Rat) := Rat.intCast_le_intCast.2 (by omega);exact ⟨c1, c2⟩
  obtain ⟨N, n1, e1⟩ := volTo_far (P := P) (T := T) (F := F) (z := z) (p := z.num) (q := z.den) (fun t ht => by
   obtain ⟨A, x, y, w, a, h0, h1, h2, hi, hv, ba, b0, b1, b2, ex, ey, ew⟩ := key t ht;refine hi.far hv ba b0 b1 b2 ?_;have g0 := hb h0 b0;have g1 := hb h1 b1;have g2 := hb h2 b2;rcases hs with hs | hs
   ·exact .inl ⟨by grind, by grind, by grind⟩
   ·exact .inr ⟨by grind, by grind, by grind⟩) T.length (Nat.le_refl _)
  refine sz_of_whole (e := 48 * (z.den : Int)) (n := N) (by omega) ?_ ?_ ?_
  ·have : (48 * (z.den : Int)).natAbs = 48 * z.den := by omega
   rw [this];exact Nat.lt_of_lt_of_le (Nat.mul_lt_mul_of_pos_left hzd (by decide)) (by decide)
  ·refine Nat.lt_of_le_of_lt n1 ?_
   have : T.length * (5408 * (228 * z.den + 6 * z.num.natAbs)) <= 8 * (5408 * (228 * 10 ^ 40 + 6 * 10 ^ 40)) := Nat.mul_le_mul hT (Nat.mul_le_mul_left _ (by omega));exact Nat.lt_of_le_of_lt this (by decide)
  ·rw [Rat.intCast_mul]; exact e1
 ·obtain ⟨D, N, d0, d1, n1, e1⟩ := volTo_num (P := P) (T := T) (F := F) (z := z) (q := z.den) (fun t ht => by
   obtain ⟨A, x, y, w, a, h0, h1, h2, hi, hv, ba, b0, b1, b2, -⟩ := key t ht;exact hi.num hv ba b0 b1 b2 hnear) T.length (Nat.le_refl _)
  have hDp : 23104 ^ T.length <= 23104 ^ 8 := Nat.pow_le_pow_right (by decide) hT;have hqq : z.den * z.den * z.den <= 10 ^ 40 * 10 ^ 40 * 10 ^ 40 := Nat.mul_le_mul (Nat.mul_le_mul (Nat.le_of_lt hzd) (Nat.le_of_lt hzd)) (Nat.le_of_lt hzd);have hqz : (0 : Int) < (z.den : Int) := by omega
  refine sz_of_whole (e := 48 * (z.den : Int) * z.den * z.den * D) (n := N) (Int.mul_pos (Int.mul_pos (Int.mul_pos (by omega) hqz) hqz) d0) ?_ ?_ ?_
  ·have e : (48 * (z.den : Int) * z.den * z.den * D).natAbs = 48 * (z.den * z.den * z.den) * D.natAbs := by
    rw [Int.natAbs_mul, Int.natAbs_mul, Int.natAbs_mul, Int.natAbs_mul];have : ((z.den : Nat) : Int).natAbs = z.den := rfl;rw [this];have : (48 : Int).natAbs = 48 := rfl;rw [this];grind
   rw [e];exact Nat.lt_of_le_of_lt (Nat.mul_le_mul (Nat.mul_le_mul_left 48 hqq) (Nat.le_trans d1 hDp)) (by decide)
  ·exact Nat.lt_of_le_of_lt (Nat.le_trans n1 (Nat.mul_le_mul (Nat.mul_le_mul hT (Nat.mul_le_mul_left _ hqq)) hDp)) (by decide)
  ·rw [Rat.intCast_mul, Rat.intCast_mul, Rat.intCast_mul, Rat.intCast_mul]; exact e1
theorem rightM {s : ByteArray} {m : Nat} (h : rightQ s.data.toList = true) (hm : 0 < m) (hl : s.size <= m) : ∃ q : Rat, s = RS q /\ Sz m q := by
 obtain ⟨q, hq, _⟩ := rightQ_val h;have hs : s = RS q := by
  have : s.data = (RL q).toArray := by rw [<- hq]
  unfold RS;rw [<- this]
 refine ⟨q, hs, ?_⟩;have hlen : (RL q).length <= m := by
  have h1 : s.data.toList.length = s.size := by rw [Array.length_toList]; rfl
  rw [hq] at h1;omega
 have key : ∀ n : Nat, (decDigits n).length <= m -> n < 10 ^ m := fun n h => (len_decDigits_le n m hm).1 h;have hn : (itoa q.num).length <= m -> q.num.natAbs < 10 ^ m := fun h => by
  rw [itoa_len] at h;exact key _ (by rw [decDigits_length]; omega)
 unfold RL at hlen;by_cases h1 : q.den = 1
 ·rw [if_pos h1] at hlen
  exact ⟨hn hlen, by rw [h1]; exact Nat.lt_of_lt_of_le (by decide : 1 < 10 ^ 1) (Nat.pow_le_pow_right (by decide) hm)⟩
 ·rw [if_neg h1, List.length_append, List.length_cons] at hlen
  exact ⟨hn (by omega), key _ (by omega)⟩
theorem slope_fits {A B C : PtQ} {a b c : Rat} (h : areaQ A B C ≠ 0) : (slopeQ A B C a b c).1 * (B.1 - A.1) + (slopeQ A B C a b c).2 * (B.2 - A.2) = b - a /\ (slopeQ A B C a b c).1 * (C.1 - A.1) + (slopeQ A B C a b c).2 * (C.2 - A.2) = c - a := by
 unfold slopeQ minorQ;unfold areaQ at h;dsimp only;have hd : (B.1 - A.1) * (C.2 - A.2) - (B.2 - A.2) * (C.1 - A.1) ≠ 0 := h;generalize hD : (B.1 - A.1) * (C.2 - A.2) - (B.2 - A.2) * (C.1 - A.1) = D at *;have hi : 1 / D * D = 1 := by rw [Rat.div_mul_cancel hd]
 generalize 1 / D = k at *;constructor
 ·have : (b - a) * (k * D) = b - a := by rw [hi, Rat.mul_one]
  grind
 ·have : (c - a) * (k * D) = c - a := by rw [hi, Rat.mul_one]
  grind
theorem Fr.lift {d B : Nat} {q : Rat} (h : Fr d B q) (c : Nat) : Fr (d * c) (B * c) q := by
 obtain ⟨n, h1, h2⟩ := h;refine ⟨n * c, ?_, ?_⟩
 ·rw [Rat.natCast_mul, <- Rat.mul_assoc, h1, Rat.intCast_mul]; rfl
 ·rw [Int.natAbs_mul]; exact Nat.mul_le_mul h2 (by simp)
theorem FrP.lift {d B : Nat} {p : PtQ} (h : FrP d B p) (c : Nat) : FrP (d * c) (B * c) p := ⟨h.1.lift c, h.2.lift c⟩
theorem share_fr {a b z : Rat} (ha : Fr 2 76 a) (hb : Fr 2 76 b) : ∃ D : Nat, 0 < D /\ D <= 152 /\ ((a - z).num.sign * (b - z).num.sign < 0 -> Fr (z.den * D) (z.den * D) ((a - z) / ((a - z) - (b - z)))) := by
 by_cases hs : (a - z).num.sign * (b - z).num.sign < 0
 ·obtain ⟨na, ea, ba⟩ := ha
  obtain ⟨nb, eb, bb⟩ := hb;obtain ⟨h0, h1, hk⟩ := cross_share hs;have n2 : ((2 : Nat) : Rat) = 2 := rfl;rw [n2] at ea eb;generalize (a - z) / ((a - z) - (b - z)) = r at *;have hzq : z * (z.den : Rat) = (z.num : Rat) := (num_den z).symm;have hq : 0 < z.den := Nat.pos_of_ne_zero z.den_nz;have hd : ((na - nb : Int) : Rat) = 2 * (a - b) := by rw [Rat.intCast_sub, <- ea, <- eb]; grind
  have hne : na - nb ≠ 0 := by
   intro e;rw [e] at hd;have h2 : (0 : Rat) = 2 * (a - b) := hd
   have h3 : a - z = 0 := by rw [<- hk]; have : (a - z) - (b - z) = 0 := by grind
                             rw [this, Rat.mul_zero]
   rw [h3] at hs;have : ((0 : Rat)).num.sign = 0 := by decide +kernel
   rw [this] at hs;omega
  have hr : r * ((z.den * (na - nb) : Int) : Rat) = ((z.den * na - 2 * z.num : Int) : Rat) := by
   rw [Rat.intCast_mul, hd, Rat.intCast_sub, Rat.intCast_mul, Rat.intCast_mul, <- hzq, <- ea];have c1 : ((z.den : Int) : Rat) = (z.den : Rat) := rfl;have c2 : ((2 : Int) : Rat) = 2 := rfl;rw [c1, c2];generalize (z.den : Rat) = q at *;grind
  refine ⟨(na - nb).natAbs, by omega, by omega, fun _ => ?_⟩;rcases Int.lt_or_lt_of_ne hne with hn | hn
  ·refine ⟨-(z.den * na - 2 * z.num), ?_, ?_⟩
   ·have e : ((z.den * (na - nb).natAbs : Nat) : Int) = -(z.den * (na - nb)) := by
     rw [Int.natCast_mul, Int.ofNat_natAbs_of_nonpos (by omega), Int.mul_neg]
    have : ((z.den * (na - nb).natAbs : Nat) : Rat) = ((-(z.den * (na - nb)) : Int) : Rat) := by rw [<- e]; rfl
    rw [this, Rat.intCast_neg, Rat.intCast_neg, <- hr];grind
   ·have hp : (0 : Rat) < ((z.den * (nb - na) : Int) : Rat) := by
     have : (0 : Int) < z.den * (nb - na) := Int.mul_pos (by omega) (by omega);exact_mod_cast this
    have e1 : ((-(z.den * na - 2 * z.num) : Int) : Rat) = r * ((z.den * (nb - na) : Int) : Rat) := by
     rw [Rat.intCast_neg, <- hr, Rat.intCast_mul, Rat.intCast_mul, Rat.intCast_sub, Rat.intCast_sub];grind
    have l1 : (0 : Rat) < ((-(z.den * na - 2 * z.num) : Int) : Rat) := by rw [e1]; exact Rat.mul_pos h0 hp
    have l2 : ((-(z.den * na - 2 * z.num) : Int) : Rat) < ((z.den * (nb - na) : Int) : Rat) := by
     rw [e1];have := Rat.mul_lt_mul_of_pos_right h1 hp;rwa [Rat.one_mul] at this
    have m1 : 0 < -(z.den * na - 2 * z.num) := by exact_mod_cast l1
    have m2 : -(z.den * na - 2 * z.num) < z.den * (nb - na) := by exact_mod_cast l2
    have e3 : ((z.den * (na - nb).natAbs : Nat) : Int) = z.den * (nb - na) := by
     rw [Int.natCast_mul, Int.ofNat_natAbs_of_nonpos (by omega)];congr 1;omega
    generalize z.den * (na - nb).natAbs = A at *;generalize (z.den : Int) * (nb - na) = B at *;generalize (z.den : Int) * na - 2 * z.num = C at *;omega
  ·refine ⟨z.den * na - 2 * z.num, ?_, ?_⟩
   ·have e : ((z.den * (na - nb).natAbs : Nat) : Int) = z.den * (na - nb) := by
     rw [Int.natCast_mul, Int.natAbs_of_nonneg (by omega)]
    have : ((z.den * (na - nb).natAbs : Nat) : Rat) = ((z.den * (na - nb) : Int) : Rat) := by rw [<- e]; rfl
    rw [this, <- hr]
   ·have hp : (0 : Rat) < ((z.den * (na - nb) : Int) : Rat) := by
     have : (0 : Int) < z.den * (na - nb) := Int.mul_pos (by omega) (by omega);exact_mod_cast this
    have l1 : (0 : Rat) < ((z.den * na - 2 * z.num : Int) : Rat) := by rw [<- hr]; exact Rat.mul_pos h0 hp
    have l2 : ((z.den * na - 2 * z.num : Int) : Rat) < ((z.den * (na - nb) : Int) : Rat) := by
     rw [<- hr];have := Rat.mul_lt_mul_of_pos_right h1 hp;rwa [Rat.one_mul] at this
    have m1 : 0 < z.den * na - 2 * z.num := by exact_mod_cast l1
    have m2 : z.den * na - 2 * z.num < z.den * (na - nb) := by exact_mod_cast l2
    have e3 : ((z.den * (na - nb).natAbs : Nat) : Int) = z.den * (na - nb) := by
     rw [Int.natCast_mul, Int.natAbs_of_nonneg (by omega)]
    generalize z.den * (na - nb).natAbs = A at *;generalize (z.den : Int) * (na - nb) = B at *;generalize (z.den : Int) * na - 2 * z.num = C at *;omega
 ·exact ⟨1, by omega, by omega, fun h => absurd h hs⟩
theorem cut_fr {c0 c1 c2 : Cor} {z : Rat} (p0 : FrP 2 26 c0.1) (p1 : FrP 2 26 c1.1) (p2 : FrP 2 26 c2.1) (h0 : Fr 2 76 c0.2) (h1 : Fr 2 76 c1.2) (h2 : Fr 2 76 c2.2) (hz : Sz 40 z) : ∃ M : Nat, 0 < M /\ M < 10 ^ 47 /\ ∀ c ∈ cutL c0 c1 c2 z, FrP (2 * M) (78 * M) c.1 := by
 obtain ⟨D0, a0, b0, f0⟩ := share_fr (z := z) h0 h1;obtain ⟨D1, a1, b1, f1⟩ := share_fr (z := z) h1 h2;obtain ⟨D2, a2, b2, f2⟩ := share_fr (z := z) h2 h0;have hq : 0 < z.den := Nat.pos_of_ne_zero z.den_nz;have step : ∀ (a b : Cor) (D e : Nat), FrP 2 26 a.1 -> FrP 2 26 b.1 -> ((a.2 - z).num.sign * (b.2 - z).num.sign < 0 -> Fr (z.den * D) (z.den * D) ((a.2 - z) / ((a.2 - z) - (b.2 - z)))) -> ∀ x ∈ cutS a b z, FrP (2 * (z.den * D * e)) (78 * (z.den * D * e)) x.1 := fun a b D e ha hb hf x hx => by
  unfold cutS at hx;rcases List.mem_append.1 hx with hx | hx
  ·split at hx
   ·rw [List.mem_singleton.1 hx]
    exact ⟨(ha.1.lift _).mono (Nat.mul_le_mul_right _ (by decide)), (ha.2.lift _).mono (Nat.mul_le_mul_right _ (by decide))⟩
   ·cases hx
  ·split at hx
   ·rename_i hs
    rw [List.mem_singleton.1 hx];have hr := (hf hs).lift e;have key : ∀ u v : Rat, Fr 2 26 u -> Fr 2 26 v -> Fr (2 * (z.den * D * e)) (78 * (z.den * D * e)) (towQ u v ((a.2 - z) / ((a.2 - z) - (b.2 - z)))) := fun u v hu hv => by
     have h3 := hr.mul (hv.sub hu);rw [Nat.mul_comm (z.den * D * e) 2] at h3;have := (hu.lift (z.den * D * e)).add h3;unfold towQ;refine this.mono ?_;rw [Nat.mul_comm (z.den * D * e) (26 + 26), <- Nat.add_mul];exact Nat.mul_le_mul_right _ (by decide)
    exact ⟨key _ _ ha.1 hb.1, key _ _ ha.2 hb.2⟩
   ·cases hx
 have hM : z.den * (D0 * D1 * D2) < 10 ^ 47 := by
  have h3 : D0 * D1 * D2 <= 152 * 152 * 152 := Nat.mul_le_mul (Nat.mul_le_mul b0 b1) b2;have h4 : z.den < 10 ^ 40 := hz.2;have h5 : z.den * (D0 * D1 * D2) <= 10 ^ 40 * (152 * 152 * 152) := Nat.mul_le_mul (Nat.le_of_lt h4) h3;exact Nat.lt_of_le_of_lt h5 (by decide)
 refine ⟨z.den * (D0 * D1 * D2), Nat.mul_pos hq (Nat.mul_pos (Nat.mul_pos a0 a1) a2), hM, fun c hc => ?_⟩;unfold cutL at hc;split at hc
 ·unfold cutTo cutTo cutTo cutTo corA corB at hc
  simp only [List.nil_append, List.mem_append] at hc;rcases hc with (hc | hc) | hc
  ·have := step c0 c1 D0 (D1 * D2) p0 p1 f0 c hc
   rwa [show z.den * D0 * (D1 * D2) = z.den * (D0 * D1 * D2) by simp only [Nat.mul_assoc]] at this
  ·have := step c1 c2 D1 (D0 * D2) p1 p2 f1 c hc
   rwa [show z.den * D1 * (D0 * D2) = z.den * (D0 * D1 * D2) by rw [Nat.mul_assoc, <- Nat.mul_assoc D1, Nat.mul_comm D1 D0]] at this
  ·have := step c2 c0 D2 (D0 * D1) p2 p0 f2 c hc
   rwa [show z.den * D2 * (D0 * D1) = z.den * (D0 * D1 * D2) by rw [Nat.mul_assoc, Nat.mul_comm D2]] at this
 ·cases hc
theorem ptA_fr {p : List PtQ} {N B : Nat} (hp : ∀ x ∈ p, FrP N B x) (i : Nat) : FrP N B (ptA p i) := by
 unfold ptA;rcases Nat.lt_or_ge i p.length with h | h
 ·rw [List.getElem?_eq_getElem h]; exact hp _ (List.getElem_mem h)
 ·rw [List.getElem?_eq_none h]; exact ⟨Fr.zero _ _, Fr.zero _ _⟩
theorem areaQ_fr {a b c : PtQ} {N B : Nat} (ha : FrP N B a) (hb : FrP N B b) (hc : FrP N B c) : Fr (N * N) (8 * (B * B)) (areaQ a b c) := by
 have := ((hb.1.sub ha.1).mul (hc.2.sub ha.2)).sub ((hb.2.sub ha.2).mul (hc.1.sub ha.1));refine this.mono ?_;rw [show B + B = 2 * B by omega, show 2 * B * (2 * B) = 4 * (B * B) by rw [Nat.mul_mul_mul_comm]];omega
theorem lfanA_fr {p : List PtQ} {N B : Nat} (hp : ∀ x ∈ p, FrP N B x) : ∀ n, Fr (N * N) (n * (8 * (B * B))) (lfanA p n)
 | 0 => (Fr.zero _ _)
 | n + 1 => by rw [Nat.succ_mul]; exact (lfanA_fr hp n).add (areaQ_fr (ptA_fr hp _) (ptA_fr hp _) (ptA_fr hp _))
theorem lfanX_fr {p : List PtQ} {N B : Nat} (hp : ∀ x ∈ p, FrP N B x) : ∀ n, Fr (N * N * N) (n * (8 * (B * B) * (3 * B))) (lfanX p n)
 | 0 => (Fr.zero _ _)
 | n + 1 => by
   rw [Nat.succ_mul];refine (lfanX_fr hp n).add ?_;exact (areaQ_fr (ptA_fr hp _) (ptA_fr hp _) (ptA_fr hp _)).mul (((ptA_fr hp 0).1.add ((ptA_fr hp _).1.add (ptA_fr hp _).1)).mono (by omega))
theorem lfanY_fr {p : List PtQ} {N B : Nat} (hp : ∀ x ∈ p, FrP N B x) : ∀ n, Fr (N * N * N) (n * (8 * (B * B) * (3 * B))) (lfanY p n)
 | 0 => (Fr.zero _ _)
 | n + 1 => by
   rw [Nat.succ_mul];refine (lfanY_fr hp n).add ?_;exact (areaQ_fr (ptA_fr hp _) (ptA_fr hp _) (ptA_fr hp _)).mul (((ptA_fr hp 0).2.add ((ptA_fr hp _).2.add (ptA_fr hp _).2)).mono (by omega))
theorem quot_Sz {X S : Rat} {N A B k : Nat} (hN : 0 < N) (hX : Fr (N * N * N) A X) (hS : Fr (N * N) B S) (h0 : S ≠ 0) (hA : A < 10 ^ k) (hB : 3 * N * B < 10 ^ k) : Sz k (X / (3 * S)) := by
 obtain ⟨x, ex, bx⟩ := hX;obtain ⟨s, es, bs⟩ := hS;have hn : (N : Rat) ≠ 0 := by simp; omega
 have hs : s ≠ 0 := by
  intro e;rw [e] at es;have : S * ((N * N : Nat) : Rat) = 0 := es;rcases Rat.mul_eq_zero.1 this with h | h
  ·exact h0 h
  ·rw [Rat.natCast_mul] at h
   rcases Rat.mul_eq_zero.1 h with h | h <;> exact hn h
 refine sz_of_div (n := 3 * N * s) (m := x) ?_ (Nat.lt_of_le_of_lt bx hA) ?_ ?_
 ·intro e
  rcases Int.mul_eq_zero.1 e with h | h
  ·omega
  ·exact hs h
 ·rw [Int.natAbs_mul]
  refine Nat.lt_of_le_of_lt (Nat.mul_le_mul ?_ bs) hB;rw [Int.natAbs_mul];exact Nat.le_refl _
 ·have h3 : 3 * S ≠ 0 := by intro e; apply h0; grind
  rw [Rat.natCast_mul, Rat.natCast_mul] at ex;rw [Rat.natCast_mul] at es;rw [Rat.intCast_mul, Rat.intCast_mul, <- ex, <- es];have c1 : ((N : Int) : Rat) = (N : Rat) := rfl;have c3 : ((3 : Int) : Rat) = 3 := rfl;rw [c1, c3];have hq : X / (3 * S) * (3 * S) = X := Rat.div_mul_cancel h3;generalize X / (3 * S) = q at *;rw [<- hq];generalize (N : Rat) = m at *;grind
theorem cent_Sz {p : List PtQ} {M : Nat} (hM0 : 0 < M) (hM : M < 10 ^ 47) (hp : ∀ x ∈ p, FrP (2 * M) (78 * M) x) (hl : p.length <= 4) (h0 : lareaP p ≠ 0) : SzP 160 (lcent p) := by
 have hn : p.length - 2 <= 2 := by omega
 have hA : Fr (2 * M * (2 * M)) (2 * (8 * (78 * M * (78 * M)))) (lareaP p) := (lfanA_fr hp (p.length - 2)).mono (Nat.mul_le_mul_right _ hn);have hX := (lfanX_fr hp (p.length - 2)).mono (Nat.mul_le_mul_right _ hn);have hY := (lfanY_fr hp (p.length - 2)).mono (Nat.mul_le_mul_right _ hn);have hm : M <= 10 ^ 47 := Nat.le_of_lt hM;have h78 : 78 * M <= 78 * 10 ^ 47 := Nat.mul_le_mul_left _ hm;have k1 : 2 * (8 * (78 * M * (78 * M)) * (3 * (78 * M))) < 10 ^ 160 := by
  have : 2 * (8 * (78 * M * (78 * M)) * (3 * (78 * M))) <= 2 * (8 * (78 * 10 ^ 47 * (78 * 10 ^ 47)) * (3 * (78 * 10 ^ 47))) := Nat.mul_le_mul_left _ (Nat.mul_le_mul (Nat.mul_le_mul_left _ (Nat.mul_le_mul h78 h78)) (Nat.mul_le_mul_left _ h78));exact Nat.lt_of_le_of_lt this (by decide)
 have k2 : 3 * (2 * M) * (2 * (8 * (78 * M * (78 * M)))) < 10 ^ 160 := by
  have : 3 * (2 * M) * (2 * (8 * (78 * M * (78 * M)))) <= 3 * (2 * 10 ^ 47) * (2 * (8 * (78 * 10 ^ 47 * (78 * 10 ^ 47)))) := Nat.mul_le_mul (Nat.mul_le_mul_left _ (Nat.mul_le_mul_left _ hm)) (Nat.mul_le_mul_left _ (Nat.mul_le_mul_left _ (Nat.mul_le_mul h78 h78)));exact Nat.lt_of_le_of_lt this (by decide)
 exact ⟨quot_Sz (by omega) hX hA h0 k1 k2, quot_Sz (by omega) hY hA h0 k1 k2⟩
theorem frP_Sz {p : PtQ} {M : Nat} (hM0 : 0 < M) (hM : M < 10 ^ 47) (h : FrP (2 * M) (78 * M) p) : SzP 50 p := by
 have key : ∀ q : Rat, Fr (2 * M) (78 * M) q -> Sz 50 q := fun q hq => by
  obtain ⟨n, e, b⟩ := hq;have hm : 78 * M < 10 ^ 50 := Nat.lt_of_le_of_lt (Nat.mul_le_mul_left _ (Nat.le_of_lt hM)) (by decide);have hm2 : 2 * M < 10 ^ 50 := Nat.lt_of_le_of_lt (Nat.mul_le_mul_left _ (Nat.le_of_lt hM)) (by decide);refine sz_of_div (n := ((2 * M : Nat) : Int)) (m := n) (by omega) (Nat.lt_of_le_of_lt b hm) (by rw [Int.natAbs_natCast]; exact hm2) ?_;exact e
 exact ⟨key _ h.1, key _ h.2⟩
theorem part_plane {P : List PtQ} {F : List Rat} {tr : Tri} {z : Rat} (hA : areaQ (ptI P tr.1) (ptI P tr.2.1) (ptI P tr.2.2) ≠ 0) : ∀ a ∈ partT P F z tr, a.2 = onQ P F tr a.1 := by
 obtain ⟨e1, e2⟩ := slope_fits (a := hI F tr.1) (b := hI F tr.2.1) (c := hI F tr.2.2) hA;have := cutTo_plane (corP P F tr.1) (corP P F tr.2.1) (corP P F tr.2.2) z (hI F tr.1 - (slopeT P F tr).1 * (ptI P tr.1).1 - (slopeT P F tr).2 * (ptI P tr.1).2) (slopeT P F tr).1 (slopeT P F tr).2 (by unfold corP; grind) (by unfold corP slopeT; grind) (by unfold corP slopeT; grind);intro a ha;rw [this a ha];unfold onQ;grind
theorem part_vol {P : List PtQ} {F : List Rat} {tr : Tri} {z : Rat} (hA : 0 < areaQ (ptI P tr.1) (ptI P tr.2.1) (ptI P tr.2.2)) (hne : partT P F z tr ≠ []) (n : Nat) (hn : n < (partT P F z tr).length) :
 ((partT P F z tr).length = 3 \/ (partT P F z tr).length = 4) /\ lareaP (begL ((partT P F z tr).map (·.1)) n) ≠ 0 /\ lareaP (begL ((partT P F z tr).map (·.1)) n) * (onQ P F tr (lcent (begL ((partT P F z tr).map (·.1)) n)) - z) = 2 * integ (partT P F z tr) z := by
 have h0 : areaQ (ptI P tr.1) (ptI P tr.2.1) (ptI P tr.2.2) ≠ 0 := by intro e; rw [e] at hA; exact absurd hA (by decide)
 obtain ⟨hl, hS⟩ := part_shape (corP P F tr.1) (corP P F tr.2.1) (corP P F tr.2.2) z hA hne;have hS0 : lareaP ((partT P F z tr).map (·.1)) ≠ 0 := by intro e; unfold partT at e; rw [e] at hS; exact absurd hS (by decide)
 obtain ⟨h1, h2⟩ := vol_piece (partT P F z tr) z (hI F tr.1 - (slopeT P F tr).1 * (ptI P tr.1).1 - (slopeT P F tr).2 * (ptI P tr.1).2) (slopeT P F tr).1 (slopeT P F tr).2 (fun a ha => by rw [part_plane h0 a ha]; unfold onQ; grind) hl n hn hS0;refine ⟨hl, h1, ?_⟩;rw [<- h2];unfold onQ;grind
open Go.Shelf
attribute [local go_sem] Oper.semAt_some
def outsL (f : Fin 3 -> Int) (pre : List (Fin 3)) : List Value := pre.foldl (fun l x => l.set x.val (.int .i64 (f x))) [.int .i64 0, .int .i64 0, .int .i64 0]
theorem outsL_snoc (f : Fin 3 -> Int) (pre : List (Fin 3)) (x : Fin 3) : outsL f (pre ++ [x]) = (outsL f pre).set x.val (.int .i64 (f x)) := by
 unfold outsL; rw [List.foldl_append]; rfl
theorem outsL_len (f : Fin 3 -> Int) (pre : List (Fin 3)) : (outsL f pre).length = 3 := by
 unfold outsL;have : ∀ (pre : List (Fin 3)) (l : List Value), (pre.foldl (fun l x => l.set x.val (.int .i64 (f x))) l).length = l.length := by
  intro pre
  induction pre with
  | nil => intro l; rfl
  | cons x pre ih => intro l; rw [List.foldl_cons, ih, List.length_set]
 rw [this]; rfl
theorem neighbours_in (n : Nat) (hn : 6 <= n) (w : World) (vp vt : Value) (P : List PtQ) (T : List Tri) (k : Nat) (hp : RdP w vp (strP P)) (ht : RdT w vt T) (hm : MeshOK P T k) (hI : ∀ t ∈ T, InI t.1 /\ InI t.2.1 /\ InI t.2.2) (t : Nat) (htl : t < T.length) (tr : Tri) (htr : tr = T[t]) (hg : Good w) :
 CallsIn Fence.wide n Tryz.prog 77 #[.agg #[vp, vt], .int .i64 (t : Int)] w (Ret (fun r _ => r = .tuple #[.agg #[.int .i64 (nbI T (sideK tr 0)), .int .i64 (nbI T (sideK tr 1)), .int .i64 (nbI T (sideK tr 2))], .int .i64 0]) w) := by
 have h1 : 1 <= n := by omega
 have HCT : Hid (∀ w', Below w.heap.size w w' -> Good w' -> Calls Tryz.prog 131 #[.agg #[vp, vt], .int .i64 (t : Int)] w' (Ret (fun r _ => r = .int .i64 0) w')) := fun w' hb hg' => checkTriangle_ok w' vp vt P T k (RdC.below hp hb) (RdC.below ht hb) hm t htl hg';have HOW : Hid (∀ w', Below w.heap.size w w' -> Calls Tryz.prog 132 #[.agg #[vp, vt]] w' (Ret (OwnersP T w'.heap.size) w')) := fun w' hb => owners_any w' vp vt T (RdC.below ht hb) (by have := hm.tlen; omega) hI
 have HND := hid hm.nodup;have HIN : Hid (∀ x, InE (revE (sideK tr x))) := fun x => by
  obtain ⟨i1, i2, i3⟩ := hI tr (by rw [htr]; exact List.getElem_mem htl);rcases x with ⟨x, hx⟩
  rcases (by omega : x = 0 \/ x = 1 \/ x = 2) with rfl | rfl | rfl
  ·exact ⟨i2, i1⟩
  ·exact ⟨i3, i2⟩
  ·exact ⟨i1, i3⟩
 obtain ⟨pp, cp, rfl, -, -, -⟩ := hp.open;obtain ⟨pt, ct, rfl, htc, htm, htr'⟩ := ht.open;obtain ⟨b, off, rfl, hbl, hcell⟩ := htr' (List.ne_nil_of_length_pos (by omega));obtain ⟨e0, e1, e2⟩ := hcell t htl;rw [<- htr] at e0 e1 e2;have hltz : (t : Int) < (T.length : Int) := by omega
 clear hp ht hm hI htr' hcell htr htl htc htm;refine callsIn_of_wp_marks Tryz.func77 rfl trivial ?_ rfl;simp only [Tryz.ntmps77, List.size_toArray, List.length_cons, List.length_nil, Nat.reduceAdd, Nat.reduceSub, Array.replicate_succ, Array.replicate_zero, List.push_toArray, List.append_toArray, List.nil_append, List.cons_append];gi_wp2_with fail;obtain ⟨W, hW⟩ : ∃ W, W = (w.alloc (.cells #[.slice pp (strP P).length cp, .slice (some ⟨b, off, none⟩) T.length ct] 38)).alloc (.cells #[.int .i64 0, .int .i64 0, .int .i64 0] 70) := ⟨_, rfl⟩;have hB : Below w.heap.size w W := by rw [hW]; exact zal2 _ _ _
 have b4 : BoxN W (w.heap.size + 1) 70 [.int .i64 0, .int .i64 0, .int .i64 0] := by rw [hW]; exact BoxN.new _ _ _ _ (by simp)
 have b2 : BoxN W w.heap.size 38 [.slice pp (strP P).length cp, .slice (some ⟨b, off, none⟩) T.length ct] := by
  rw [hW];have h1 := (BoxN.new w #[.slice pp (strP P).length cp, .slice (some ⟨b, off, none⟩) T.length ct] 38 _ rfl);exact h1.below (zal _ _) h1.lt
 rw [<- hW];clear hW;refine ⟨trivial, ?_⟩;refine CallsIn.mono (callsIn_wide.2 (HCT.out W hB (hg.below hB))) ?_;rintro e w1 ⟨_, rfl, rfl, hb1⟩;have hB1 := hB.trans (hb1.mono hB.size);have b21 := b2.below hb1 b2.lt;have b41 := b4.below hb1 b4.lt;have x0 := b21.cell 0 rfl;have x1 := b21.cell 1 rfl;clear hb1 hB b2 b4;gi_wp2_with fail;refine ⟨trivial, ?_⟩;refine CallsIn.mono (callsIn_wide.2 (HOW.out w1 hB1)) ?_;rintro e w2 ⟨v, rfl, hov, hb2⟩;rcases hov with hov | ⟨hnn, _⟩
 rotate_left
 ·exact absurd HND.out hnn
 obtain ⟨_, bm, D, hbm, rfl, hM⟩ := hov;have hB2 := hB1.trans (hb2.mono hB1.size);have b22 := b21.below hb2 b21.lt;have b42 := b41.below hb2 b41.lt;have HM := hid hM;have hbm2 := hM.owns;have hbml : bm < w2.heap.size := by
  obtain ⟨es, ck, hh, _⟩ := hbm2;exact (Array.getElem?_eq_some_iff.1 hh).1
 clear hb2 hB1 b21 b41 x0 x1 hM hbm2;have x1 := b22.cell 1 rfl;have d0 := zcq hB2 hbl e0;have d1 := zcq hB2 hbl e1;have d2 := zcq hB2 hbl e2;have hz42 := b42.lt;have hz22 := b22.lt;have hbl2 : b < w2.heap.size := by omega
 gi_wp2_with fail;refine ⟨trivial, ?_⟩;refine CallsIn.mono (callsIn_wide.2 (sides_any tr _)) ?_;rintro e w3 ⟨rfl, rfl⟩;obtain ⟨W1, hW1⟩ : ∃ W1, W1 = ((w2.alloc (.cells #[.map (some bm)] 178)).alloc (.cells #[.int .i64 0, .int .i64 0, .int .i64 0] 70)).alloc (.cells #[.int .i64 tr.1, .int .i64 tr.2.1, .int .i64 tr.2.2] 71) := ⟨_, rfl⟩;have hbW1 : Below w2.heap.size w2 W1 := by rw [hW1]; exact (((Below.refl _ _).alloc (Nat.le_refl _) _).alloc (by simp) _).alloc (by simp; omega) _
 have hz1 : W1.heap.size = w2.heap.size + 3 := by rw [hW1]; simp
 have z7 : Boxed W1 w2.heap.size 178 (.map (some bm)) := by rw [hW1]; exact ((Boxed.new w2 _ _).alloc _).alloc _
 have z9 : BoxN W1 (w2.heap.size + 1) 70 [.int .i64 0, .int .i64 0, .int .i64 0] := by
  rw [hW1];have h1 := (BoxN.new (w2.alloc (.cells #[.map (some bm)] 178)) #[.int .i64 0, .int .i64 0, .int .i64 0] 70 (w2.heap.size + 1) (by simp));exact h1.below (zal _ _) h1.lt
 have s0 : W1.cell? ⟨w2.heap.size + 2, 0, none⟩ = some (.int .i64 tr.1) := by rw [hW1, World.cell?_alloc_at _ _ _ _ (by simp)]; rfl
 have s1 : W1.cell? ⟨w2.heap.size + 2, 1, none⟩ = some (.int .i64 tr.2.1) := by rw [hW1, World.cell?_alloc_at _ _ _ _ (by simp)]; rfl
 have s2 : W1.cell? ⟨w2.heap.size + 2, 2, none⟩ = some (.int .i64 tr.2.2) := by rw [hW1, World.cell?_alloc_at _ _ _ _ (by simp)]; rfl
 gi_wp2_with fail;rw [<- hW1];have hm1 : MapL viewE 3 (Lit.int .i64) W1 bm (3 * T.length) D (ownL T) := HM.out.below hbW1 hbml;have z4 : BoxN W1 (w.heap.size + 1) 70 [.int .i64 0, .int .i64 0, .int .i64 0] := b42.below hbW1 hz42;have hBW : Below w.heap.size w W1 := hB2.trans (hbW1.mono hB2.size);clear hW1 hbW1 HM b22 b42 x1 d0 d1 d2 e0 e1 e2 hB2;refine wpIn_rangeFunc_ownH rfl h1 (gf := 173) (lb := #[.pointer (some ⟨w2.heap.size + 1 + 1, 0, none⟩)]) rfl trivial (enters_of Tryz.func173 (by kernel_rfl) rfl)
  (sides_stops Fence.wide (n - 1) trivial rfl (by omega) (w2.heap.size + 2) w.heap.size tr W1 (by omega) s0 s1 s2) (fun h k => KeepAt.trans h k) (keepAt_b (by omega) (by omega)) (Below.refl _ _) (fun _ => rfl)
  (fun pre W => W1.grownBy W (some (w2.heap.size + 1)) /\ Hid (BoxN W (w2.heap.size + 1) 70 (outsL (fun x => nbI T (sideK tr x)) pre)))
  (fun _ _ _ => False)
  ?hI ?hIx ?h0 (fun x a' W => ∃ Bx, (W1.heap.size <= Bx /\ W.heap[Bx]? = some (.cells #[.int .i64 (sideK tr x).1, .int .i64 (sideK tr x).2] 88)) /\
   a' = { tmps := #[.agg #[.slice pp (strP P).length cp, .slice (some ⟨b, off, none⟩) T.length ct], .int .i64 t, .pointer (some ⟨w.heap.size, 0, none⟩), undef, .pointer (some ⟨w.heap.size + 1, 0, none⟩), .int .i64 0, .int .i64 0, .pointer (some ⟨w2.heap.size, 0, none⟩), .bool true, .pointer (some ⟨w2.heap.size + 1, 0, none⟩), .int .i64 (x.val : Int), .pointer (some ⟨Bx, 0, none⟩), undef, undef, .agg #[.slice pp (strP P).length cp, .slice (some ⟨b, off, none⟩) T.length ct], .int .i64 t, .int .i64 0, .int .i64 0, .bool false, undef, undef, .tuple #[.map (some bm), .bool true], .agg #[.slice pp (strP P).length cp, .slice (some ⟨b, off, none⟩) T.length ct], .tuple #[.map (some bm), .bool true], .map (some bm), .bool true, .pointer (some ⟨w.heap.size, 1, none⟩), .slice (some ⟨b, off, none⟩) T.length ct, .int .i64 t, .pointer (some ⟨b, off + t * 3, none⟩), .agg #[.int .i64 tr.1, .int .i64 tr.2.1, .int .i64 tr.2.2], .func (.func 173) #[] #[.pointer (some ⟨w2.heap.size + 1 + 1, 0, none⟩)], .int .i64 (x.val : Int), .agg #[.int .i64 (sideK tr x).1, .int .i64 (sideK tr x).2], undef, undef, undef, undef, undef, undef, undef, undef, undef, undef, undef, undef, undef, undef, undef, undef], defers := [] })
  ?hAx ?assign ?body ?done ?stop
 case hI =>
  rintro pre W W' row ⟨hs, ho⟩ hg hr;have hne : some (w2.heap.size + 1) ≠ row := fun e => by have := (hr _ e.symm).1; omega
  exact ⟨⟨hg.os.trans hs.os, hg.tape.trans hs.tape, hg.output.trans hs.output, Nat.le_trans hs.size hg.size, fun j hj hjn => (hg.block j (Nat.lt_of_lt_of_le hj hs.size) (fun e => by have := (hr _ e.symm).1; omega)).trans (hs.block j hj hjn)⟩, (hg.block _ ho.out.lt hne).trans ho.out⟩
 case hIx =>
  rintro c' pre W W' row h _ _;exact h
 case h0 => exact ⟨⟨rfl, rfl, rfl, Nat.le_refl _, fun _ _ _ => rfl⟩, z9⟩
 case hAx =>
  rintro x a' _ W W' row ⟨Bx, ⟨h1, h2⟩, h3⟩ hg hr;refine ⟨Bx, ⟨h1, (hg.block Bx (Array.getElem?_eq_some_iff.1 h2).1 (fun e => ?_)).trans h2⟩, h3⟩;obtain ⟨_, o, ho, hc⟩ := hr Bx e.symm;rw [h2] at ho; cases ho; cases hc
 case assign =>
  rintro l pre x W K ⟨hs, ho⟩ hK;dsimp only [encSide];gi_wp2_with fail;have hg1 := World.grownBy_alloc W (.cells #[.int .i64 (sideK tr x).1, .int .i64 (sideK tr x).2] 88) none;refine hK _ _ ((KeepsOthers.alloc _ _).from _) ⟨(Below.refl _ W).alloc (by have := hs.size; omega) _, Below.heap_alloc _ _ _ (by have := hs.size; omega)⟩ ⟨⟨hg1.os.trans hs.os, hg1.tape.trans hs.tape, hg1.output.trans hs.output, Nat.le_trans hs.size hg1.size, fun j hj hjn => (hg1.block j (Nat.lt_of_lt_of_le hj hs.size) (by simp)).trans (hs.block j hj hjn)⟩, (hg1.block _ ho.out.lt (by simp)).trans ho.out⟩ ⟨W.heap.size, ⟨hs.size, World.alloc_heap_new _ _⟩, rfl⟩
 case body =>
  rintro l pre x a' W hl ⟨r, hr⟩ ⟨hs, ho⟩ ⟨Bx, ⟨hBx, hbx⟩, rfl⟩ hlt';have q7 : Boxed W w2.heap.size 178 (.map (some bm)) := z7.kept hs (by simp);have c7 := q7.cell;have hm : MapL viewE 3 (Lit.int .i64) W bm (3 * T.length) D (ownL T) := hm1.kept hs (by simp; omega);have cb0 : W.cell? ⟨Bx, 0, none⟩ = some (.int .i64 (sideK tr x).1) := by simp [World.cell?, hbx]
  have cb1 : W.cell? ⟨Bx, 1, none⟩ = some (.int .i64 (sideK tr x).2) := by simp [World.cell?, hbx]
  have hown := hm.owns;have HX := HIN.out x;have hkey : keyOf Tryz.prog 88 (.agg #[.int .i64 (sideK tr x).2, .int .i64 (sideK tr x).1]) = some (kE (revE (sideK tr x))) := keyE HX.1 HX.2;have hlen := outsL_len (fun x => nbI T (sideK tr x)) pre;have c9' := ho.out.cell x.val (List.getElem?_eq_getElem (by rw [hlen]; exact x.isLt));have c9f := ho.out.frozen x.val;have hx3 : (x.val : Int) < 3 := by have := x.isLt; omega
  obtain ⟨v9, hv9⟩ : ∃ v9, W.cell? ⟨w2.heap.size + 1, x.val, none⟩ = some v9 := ⟨_, c9'⟩;have hhas := hm.has_iff HX;have HSET : Hid (∀ y : Int, y = nbI T (sideK tr x) -> BoxN (W.setCell ⟨w2.heap.size + 1, x.val, none⟩ (.int .i64 y)) (w2.heap.size + 1) 70 (outsL (fun x => nbI T (sideK tr x)) (pre ++ [x]))) := fun y hy => by
   rw [outsL_snoc, hy];exact ho.out.set x.val (.int .i64 (nbI T (sideK tr x)))
  have HGR : Hid (∀ y : Value, W1.grownBy (W.setCell ⟨w2.heap.size + 1, x.val, none⟩ y) (some (w2.heap.size + 1))) := fun y =>
   ⟨hs.os, hs.tape, hs.output, by simpa using hs.size, fun j hj hjn => (Below.heap_setCell _ _ _ j (by rintro rfl; exact hjn rfl)).trans (hs.block j hj hjn)⟩
  have HKE := hid hkey;have HHAS := hid hhas;have HMM := hid hm;clear hbx hr hkey hhas q7 c9' hlen ho hm;generalize hjx : x.val = jx at *;have HJX := hid hjx;clear hjx;cases hsn : Maps.has D (viewE.lit (revE (sideK tr x)))
  ·have hnk : revE (sideK tr x) ∉ (ownL T).map (·.1) := fun hmm => by
    have := HHAS.out.2 hmm;rw [hsn] at this; cases this
   have HNK := hid (nbI_none hnk);have HSN := hid hsn;clear hnk hsn;gi_wp2_with (gi_at_lookup; refine wpListIn_lookup_own_ok_int _ rfl _ _ 178 rfl 88 3 .i64 lawE und_EI und_I (zeroI _) bm (3 * T.length) D rfl hown _ _ rfl HKE.out ?_; rw [show Maps.has D (kE (revE (sideK tr x))) = false from HSN.out]; intro cz hat hwc; clear hat hwc);exact ⟨(KeepsOthers.setCell _ _ _).from _, ⟨(Below.refl _ W).setCell (p := ⟨w2.heap.size + 1, jx, none⟩) (by show w.heap.size <= w2.heap.size + 1; omega) _, Below.heap_setCell _ _ _ _ (by show w2.heap.size + 2 ≠ w2.heap.size + 1; omega)⟩, HGR.out _, hid (HSET.out _ HNK.out.symm)⟩
  ·have hnk : revE (sideK tr x) ∈ (ownL T).map (·.1) := HHAS.out.1 hsn
   have hat2 := HMM.out.at (nbI_some hnk) (.lit (.int .i64 0));have HAT := hid hat2;have HSN := hid hsn;clear hnk hsn hat2;gi_wp2_with (gi_at_lookup; refine wpListIn_lookup_own_ok_int _ rfl _ _ 178 rfl 88 3 .i64 lawE und_EI und_I (zeroI _) bm (3 * T.length) D rfl hown _ _ rfl HKE.out ?_; rw [show Maps.has D (kE (revE (sideK tr x))) = true from HSN.out]; intro cz hat hwc; have HCZ : Hid (cz = nbI T (sideK tr x)) := (by have h1 := hat.symm.trans HAT.out; injection h1 with h1; injection h1); clear hat hwc);exact ⟨(KeepsOthers.setCell _ _ _).from _, ⟨(Below.refl _ W).setCell (p := ⟨w2.heap.size + 1, jx, none⟩) (by show w.heap.size <= w2.heap.size + 1; omega) _, Below.heap_setCell _ _ _ _ (by show w2.heap.size + 2 ≠ w2.heap.size + 1; omega)⟩, HGR.out _, hid (HSET.out _ HCZ.out)⟩
 case done =>
  rintro E ys W hE rfl ⟨hs, ho⟩ hK;have r4 : BoxN W (w.heap.size + 1) 70 [.int .i64 0, .int .i64 0, .int .i64 0] := (hs.block _ (by omega) (by simp; omega)).trans z4;have r9 : BoxN W (w2.heap.size + 1) 70 [.int .i64 (nbI T (sideK tr 0)), .int .i64 (nbI T (sideK tr 1)), .int .i64 (nbI T (sideK tr 2))] := ho.out;have hBW2 : Below w.heap.size w W := hBW.grown hs hBW.size (fun j e => by cases e; omega);have a0 := r4.cell 0 rfl;have a1 := r4.cell 1 rfl;have a2 := r4.cell 2 rfl;have f0 := r4.frozen 0;have f1 := r4.frozen 1;have f2 := r4.frozen 2;have n0 := r9.cell 0 rfl;have n1 := r9.cell 1 rfl;have n2 := r9.cell 2 rfl;obtain ⟨y0, hy0⟩ : ∃ y, y = nbI T (sideK tr 0) := ⟨_, rfl⟩;obtain ⟨y1, hy1⟩ : ∃ y, y = nbI T (sideK tr 1) := ⟨_, rfl⟩;obtain ⟨y2, hy2⟩ : ∃ y, y = nbI T (sideK tr 2) := ⟨_, rfl⟩;rw [<- hy0] at n0;rw [<- hy1] at n1;rw [<- hy2] at n2;have HY : Hid (y0 = nbI T (sideK tr 0) /\ y1 = nbI T (sideK tr 1) /\ y2 = nbI T (sideK tr 2)) := ⟨hy0, hy1, hy2⟩;have hszW := hs.size;clear hy0 hy1 hy2;gi_wp2_with fail;have hne : E ≠ w.heap.size + 1 := by omega
  have hKs : ((((W.setCell ⟨w.heap.size + 1, 0, none⟩ (.int .i64 y0)).setCell ⟨w.heap.size + 1, 1, none⟩ (.int .i64 y1)).setCell ⟨w.heap.size + 1, 2, none⟩ (.int .i64 y2))).heap[E]? = some (.deferred (some [])) := by
   rw [Below.heap_setCell _ _ _ E hne, Below.heap_setCell _ _ _ E hne, Below.heap_setCell _ _ _ E hne];exact hK
  have hle : w.heap.size <= w.heap.size + 1 := by omega
  have hBs := ((hBW2.setCell (p := ⟨w.heap.size + 1, 0, none⟩) hle (.int .i64 y0)).setCell (p := ⟨w.heap.size + 1, 1, none⟩) hle (.int .i64 y1)).setCell (p := ⟨w.heap.size + 1, 2, none⟩) hle (.int .i64 y2);have r4s := ((r4.set 0 (.int .i64 y0)).set 1 (.int .i64 y1)).set 2 (.int .i64 y2);have hl4 := r4s.lt;refine leaves_marks (B := W1.heap.size) ⟨[E], rfl, (by simp), fun D hD => by rw [List.mem_singleton] at hD; subst hD; exact ⟨hE, hKs⟩⟩ fun w' hw' => ?_
  have q4 : BoxN w' (w.heap.size + 1) 70 [.int .i64 y0, .int .i64 y1, .int .i64 y2] := (hw'.block _ (.inl (by omega)) hl4).trans r4s;have k0 := q4.cell 0 rfl;have k1 := q4.cell 1 rfl;have k2 := q4.cell 2 rfl;refine ⟨.tuple #[.agg #[.int .i64 y0, .int .i64 y1, .int .i64 y2], .int .i64 0], by simp [results, Tryz.results77, go_sem, k0, k1, k2], ?_⟩;obtain ⟨e0, e1, e2⟩ := HY.out;refine ⟨_, rfl, by rw [e0, e1, e2], hBs.trans ((hw'.below (by simpa using hszW)).mono (by omega))⟩
 case stop =>
  rintro E c' pre W hE hSp h hK;exact h.elim
theorem neighbours_any (w : World) (vp vt : Value) (P : List PtQ) (T : List Tri) (k : Nat) (hp : RdP w vp (strP P)) (ht : RdT w vt T) (hm : MeshOK P T k) (t : Nat) (htl : t < T.length) (tr : Tri) (htr : tr = T[t]) (hg : Good w) :
 Calls Tryz.prog 77 #[.agg #[vp, vt], .int .i64 (t : Int)] w (Ret (fun r _ => r = .tuple #[.agg #[.int .i64 (nbI T (sideK tr 0)), .int .i64 (nbI T (sideK tr 1)), .int .i64 (nbI T (sideK tr 2))], .int .i64 0]) w) :=
 callsIn_wide.1 (neighbours_in 6 (by omega) w vp vt P T k hp ht hm (fun t ht => by
  have hpl := hm.plen;have key : ∀ x ∈ idxOf t, InI x := fun x hx => by
   have := hm.idx t ht x hx;unfold InI;omega
  exact ⟨key _ (by simp [idxOf]), key _ (by simp [idxOf]), key _ (by simp [idxOf])⟩) t htl tr htr hg)
end Go.Proofs.YtegiemcnfbchoaaGreatDoor
