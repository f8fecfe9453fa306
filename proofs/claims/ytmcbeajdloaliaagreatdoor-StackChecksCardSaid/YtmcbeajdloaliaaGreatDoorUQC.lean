import Derived.Test.YtmcbeajdloaliaaGreatDoorUQA
/- Klipperef02 Rational -/
set_option maxHeartbeats 1000000
set_option maxRecDepth 100000
namespace Go.Proofs.YtmcbeajdloaliaaGreatDoor
open Go.RowKit Go.Lib
theorem Sz.num_size {k : Nat} {q : Rat} (h : Sz k q) (Z : 0 < k) : (IS q.num).size <= k + 1 := by
 rw [Ise]; exact ill Z h.1
theorem Sz.den_size {k : Nat} {q : Rat} (h : Sz k q) (Z : 0 < k) : (IS (q.den : Int)).size <= k + 1 := by
 rw [Ise]; exact ill Z h.2
theorem Sz.size {k : Nat} {q : Rat} (h : Sz k q) (Z : 0 < k) : (RS q).size <= 2 * k + 2 := by
 rw [Rse]; exact Rll Z h
theorem mse {a b : Int} {j k : Nat} (U : 0 < j) (S : 0 < k) (X : (IS a).size <= j) (V : (IS b).size <= k) : (IS (a * b)).size <= j + k + 1 := by
 rw [Ise] at *;have Z := nAl U X;have Y := nAl S V;refine ill (k := j + k) (by omega) ?_;rw [Int.natAbs_mul]; exact pal Z Y
theorem ab0 {a b : Int} {k : Nat} (Z : 0 < k) (Y : (IS a).size <= k) (X : (IS b).size <= k) : (IS (a + b)).size <= k + 2 := by
 rw [Ise] at *;have V := nAl Z Y;have U := nAl Z X;refine ill (k := k + 1) (by omega) ?_;rw [Nat.pow_succ];omega
theorem plm {x y : Int} (hx : -1000000000 < x /\ x < 1000000000) (hy : -1000000000 < y /\ y < 1000000000) : -1000000000000000000 < x * y /\ x * y < 1000000000000000000 := by
 have h : (x * y).natAbs < 1000000000 * 1000000000 := by
  rw [Int.natAbs_mul];exact Nat.mul_lt_mul'' (by omega) (by omega)
 omega
theorem Re4 (q : Rat) : ((RS q).toList == [48]) = decide (q = 0) := by rw [btL, Rlt, Re0]
theorem Rps (q : Rat) : 0 < (RS q).size := by rw [Rse]; exact Rlp q
theorem Rhd (q : Rat) (h : 0 < (RS q).size) : (RS q)[0].toNat = 45 ↔ q.num < 0 := by
 obtain ⟨Z, Y, L⟩ := lof q;rw [L.sign h, L.neg]
def cmpQ (a b : Rat) : Int := if a < b then -1 else if b < a then 1 else 0
theorem imR (q : Rat) (_h : q.num ≠ 0) : ∃ n : Int, ((q.num = (q.num.natAbs : Int) /\ (q.den : Int) = n) \/ (q.num = -(q.num.natAbs : Int) /\ (q.den : Int) = -n)) /\ mkRat n q.num.natAbs = q⁻¹ := by
 rw [Rat.inv_def];rcases Int.lt_or_le q.num 0 with Y | Y
 ·refine ⟨-(q.den : Int), .inr ⟨by omega, by omega⟩, ?_⟩
  obtain ⟨m, Z⟩ : ∃ m : Nat, q.num = -(m : Int) := ⟨q.num.natAbs, by omega⟩;rw [Z, Rat.divInt_neg'];simp [Rat.divInt_ofNat, Int.natAbs_neg]
 ·refine ⟨(q.den : Int), .inl ⟨by omega, rfl⟩, ?_⟩
  obtain ⟨m, Z⟩ : ∃ m : Nat, q.num = (m : Int) := ⟨q.num.natAbs, by omega⟩;rw [Z];simp [Rat.divInt_ofNat]
theorem jQa (x y : Int) (S : ByteArray) (Y : (y = 1 -> IS x = S) /\ (y ≠ 1 -> (IS x ++ ⟨#[47]⟩) ++ IS y = S)) (V : (IS x).size <= 100000) (U : (IS y).size <= 100000) (w : World) :
 Calls Tryz.prog 95 #[.string (IS x), .string (IS y)] w (Same (fun v => v = .string S) w) := by
 have Z := Ia0 y;by_cases hy1 : y = 1
 ·have X := hid (Y.1 hy1)
  rw [decide_eq_true hy1] at Z;clear hy1 Y;go_enter Tryz.func95, Tryz.ntmps95;go_wp2_with fail;go_ret;exact ⟨_, rfl, congrArg Value.string X.out, rfl⟩
 ·have X := hid (Y.2 hy1)
  rw [decide_eq_false hy1] at Z;clear hy1 Y;go_enter Tryz.func95, Tryz.ntmps95;go_wp2_with fail;go_ret;exact ⟨_, rfl, congrArg Value.string X.out, rfl⟩
theorem lIa (a b n : Int) (d : Nat) (Z : Int) (Y : Z = (d : Int)) (f : 0 < d) (l : (IS a).size <= 90000) (k : (IS b).size <= 90000)
 (R : (b = Z /\ a = n) \/ (b = -Z /\ a = -n)) (w : World) (c : Good w) :
 Calls Tryz.prog 55 #[.string (IS a), .string (IS b)] w (Ret (fun v _ => v = .string (RS (mkRat n d))) w) := by
 obtain ⟨G, s⟩ := zex (Nat.gcd n.natAbs d);obtain ⟨q, E, J, I, r⟩ := gft f s;have H : Hid (((Int.gcd n Z : Nat) : Int) = (G : Int)) := by unfold Hid; rw [s, Y]; rfl
 obtain ⟨x, hx⟩ := zex (n / (G : Int));obtain ⟨y, hy⟩ := zex (Z / (G : Int) : Int);have O : y = ((d / G : Nat) : Int) := by rw [hy, Y]; rfl
 have N := hid (RmR f s (x := x) (by rw [hx, J]) O);have j : (IS n).size <= 90001 := by
  rcases R with ⟨_, h⟩ | ⟨_, h⟩
  ·rw [<- h]; omega
  ·rw [show n = -a by omega]; exact nse l
 have t : (IS Z).size <= 90001 := by
  rcases R with ⟨h, _⟩ | ⟨h, _⟩
  ·rw [<- h]; omega
  ·rw [show Z = -b by omega]; exact nse k
 have m : (IS (G : Int)).size <= 90001 := nsm E (by rw [<- Y]; exact t) (by omega);have h1 : (IS x).size <= 90002 := Ism (by rw [hx]; exact I) j (by omega);have h2 : (IS y).size <= 90002 := Ism (n := Z) (by rw [O, Y]; exact Nat.div_le_self d G) t (by omega);have h0 : 0 < Z := by omega
 obtain ⟨S, z⟩ := zex ((G : Int) : Int);rw [<- z] at H hx hy m;have K : Hid (S ≠ 0) := by unfold Hid; omega
 have V := In4 S;have B := Ia0 S;have H1 : Hid (S = 1 -> x = n /\ y = Z) := fun e => by rw [hx, hy, e, Int.ediv_one, Int.ediv_one]; exact ⟨rfl, rfl⟩
 have HX := hid hx;have HY := hid hy;clear s J I r q E O Y hx hy z;rcases R with ⟨M, L⟩ | ⟨M, L⟩
 case' inl =>
  have M := M.symm;have L := L.symm;subst M L;have o : ¬ Z < 0 := by omega
  go_enter Tryz.func55, Tryz.ntmps55;go_wp2_with fail;refine (sb0 Z _).mono ?_;rintro e w1 ⟨_, rfl, rfl, rfl⟩;go_upto_region 3 with fail
 case' inr =>
  have o : b < 0 := by omega
  have E1 : Hid (-b = Z) := by unfold Hid; omega
  have E2 : Hid (-a = n) := by unfold Hid; omega
  clear M L;go_enter Tryz.func55, Tryz.ntmps55;go_wp2_with fail;refine (sb0 b _).mono ?_;rintro e w0 ⟨_, rfl, rfl, rfl⟩;go_wp2_with fail;refine (na0 a (by omega) _).mono ?_;rintro e h3 ⟨_, rfl, rfl, rfl⟩;rw [E2.out];go_wp2_with fail;refine (na0 b (by omega) _).mono ?_;rintro e w1 ⟨_, rfl, rfl, rfl⟩;rw [E1.out];go_upto_region 3 with fail
 all_goals
  go_wp2_with fail;refine (gay n Z (by omega) (by omega) _ c).mono ?_;rintro e w2 ⟨_, rfl, rfl, X⟩;rw [H.out];have U := c.below X;by_cases hg1 : S = 1
  ·obtain ⟨i, g⟩ := H1.out hg1
   rw [decide_eq_true hg1] at V B;rw [Bool.not_true] at V;have HJ := hid (jQa n Z (RS (mkRat n d)) (by have h := N.out; rw [i, g] at h; exact h) (by omega) (by omega) w2);clear hg1 i g;go_wp2_with fail;refine HJ.out.mono ?_;rintro e w3 ⟨_, rfl, rfl, rfl⟩;go_wp2_with fail;go_ret;exact ⟨_, rfl, rfl, X⟩
  ·rw [decide_eq_false hg1] at V B
   rw [Bool.not_false] at V;clear hg1;go_wp2_with fail;refine (day n S (by omega) (by omega) K.out _ U).mono ?_;rintro e w3 ⟨_, rfl, rfl, Q⟩;rw [<- HX.out];have A := U.below Q;have D := zbt X Q;clear X Q;go_wp2_with fail;refine (day Z S (by omega) (by omega) K.out _ A).mono ?_;rintro e w4 ⟨_, rfl, rfl, C⟩;rw [<- HY.out];have p := zbt D C;clear D C;go_wp2_with fail;refine (jQa x y (RS (mkRat n d)) N.out (by omega) (by omega) w4).mono ?_;rintro e w5 ⟨_, rfl, rfl, rfl⟩;go_wp2_with fail;go_ret;exact ⟨_, rfl, rfl, p⟩
theorem Ra0 (q : Rat) : ((RS q).toList == [49]) = decide (q = 1) := by rw [btL, Rlt, Rd0]
theorem rMa (p q : Rat) (k : Nat) (R : 0 < k) (h0 : k <= 20000) (D : Sz k p) (hq : Sz k q) (w : World) (S : Good w) :
 Calls Tryz.prog 25 #[.string (RS p), .string (RS q)] w (Ret (fun v _ => v = .string (RS (p * q))) w) := by
 have h5 := D.size R;have h6 := hq.size R;have n := D.num_size R;have l := hq.num_size R;have o := D.den_size R;have m := hq.den_size R;have b : Hid (mkRat (p.num * q.num) (p.den * q.den) = p * q) := by unfold Hid; rw [Rat.mul_def']
 have a : 0 < p.den * q.den := Nat.mul_pos p.den_pos q.den_pos;have c : Hid ((p.den : Int) * (q.den : Int) = ((p.den * q.den : Nat) : Int)) := by unfold Hid; omega
 have A := hid (mse (j := k + 1) (k := k + 1) (by omega) (by omega) n l);have B := hid (mse (j := k + 1) (k := k + 1) (by omega) (by omega) o m);clear D hq;have p8 := Re4 p;have f := Re4 q;have C := Ra0 p;have E := Ra0 q;by_cases hp0 : p = 0
 ·rw [decide_eq_true hp0] at p8
  have Y : Hid ((⟨#[48]⟩ : ByteArray) = RS (p * q)) := by unfold Hid; rw [hp0, Rat.zero_mul, RS_zero]
  clear hp0 C E f;go_enter Tryz.func25, Tryz.ntmps25;go_wp2_with fail;go_ret;exact ⟨_, rfl, congrArg Value.string Y.out, Below.refl _ _⟩
 rw [decide_eq_false hp0] at p8;clear hp0;by_cases hq0 : q = 0
 ·rw [decide_eq_true hq0] at f
  have Y : Hid ((⟨#[48]⟩ : ByteArray) = RS (p * q)) := by unfold Hid; rw [hq0, Rat.mul_zero, RS_zero]
  clear hq0 C E;go_enter Tryz.func25, Tryz.ntmps25;go_wp2_with fail;go_ret;exact ⟨_, rfl, congrArg Value.string Y.out, Below.refl _ _⟩
 rw [decide_eq_false hq0] at f;clear hq0;by_cases hp1 : p = 1
 ·rw [decide_eq_true hp1] at C
  have Y : Hid (RS q = RS (p * q)) := by unfold Hid; rw [hp1, Rat.one_mul]
  clear hp1 E;go_enter Tryz.func25, Tryz.ntmps25;go_wp2_with fail;go_ret;exact ⟨_, rfl, congrArg Value.string Y.out, Below.refl _ _⟩
 rw [decide_eq_false hp1] at C;clear hp1;by_cases hq1 : q = 1
 ·rw [decide_eq_true hq1] at E
  have Y : Hid (RS p = RS (p * q)) := by unfold Hid; rw [hq1, Rat.mul_one]
  clear hq1;go_enter Tryz.func25, Tryz.ntmps25;go_wp2_with fail;go_ret;exact ⟨_, rfl, congrArg Value.string Y.out, Below.refl _ _⟩
 rw [decide_eq_false hq1] at E;clear hq1;go_enter Tryz.func25, Tryz.ntmps25;go_wp2_with fail;refine (qQa p (by omega) _).mono ?_;rintro e w1 ⟨_, rfl, ⟨x, y, one, rfl, hx⟩, rfl⟩;rcases Bool.eq_false_or_eq_true one with z | z
 case' inl =>
  subst z;obtain ⟨K, J, I, i⟩ := hx rfl;have Q := hid K;have O := hid J;clear hx K J;go_wp2_with fail;refine (qQa q (by omega) _).mono ?_;rintro e w2 ⟨_, rfl, ⟨x2, y2, d, rfl, hy⟩, rfl⟩;rcases Bool.eq_false_or_eq_true d with t | t
 ·subst t
  obtain ⟨H, G, g, h7⟩ := hy rfl;clear hy;have h3 := plm I g;have h4 := plm (x := y) (y := y2) (by omega) (by omega);have HE := hid (sQa (x * x2) (p.den * q.den) (y * y2) (by rw [O.out, G]; exact c.out) a (by omega) (by omega) w S);have HR : Hid (mkRat (x * x2) (p.den * q.den) = p * q) := by unfold Hid; rw [Q.out, H]; exact b.out
  clear H G;go_wp2_with fail;refine HE.out.mono ?_;rintro e w3 ⟨_, rfl, rfl, Z⟩;rw [HR.out];go_wp2_with fail;go_ret;exact ⟨_, rfl, rfl, Z⟩
 all_goals
  first
  | subst t
    clear hy Q O I i
  | subst z
    clear hx
  go_upto_region 13 with fail
 all_goals
  go_wp2_with fail;refine ((prt p (by omega) _ S).mono fun _ _ h => h.ret).mono ?_;rintro e w4 ⟨_, rfl, rfl, Z⟩;have X := Z;have s := S.below X;clear Z;go_wp2_with fail;refine ((prt q (by omega) _ s).mono fun _ _ h => h.ret).mono ?_;rintro e w5 ⟨_, rfl, rfl, Z⟩;have V := zbt X Z;clear X Z;have M := S.below V;go_wp2_with fail;refine (ma0 p.num q.num (by omega) (by omega) _ M).mono ?_;rintro e w6 ⟨_, rfl, rfl, Z⟩;have U := zbt V Z;clear V Z M;have L := S.below U;go_wp2_with fail;refine (ma0 (p.den : Int) (q.den : Int) (by omega) (by omega) _ L).mono ?_;rintro e w7 ⟨_, rfl, rfl, Z⟩;have N := zbt U Z;clear U Z L;have r := S.below N;go_wp2_with fail;refine (lIa (p.num * q.num) ((p.den : Int) * (q.den : Int)) (p.num * q.num) (p.den * q.den) _ c.out a (by have := A.out; omega) (by have := B.out; omega) (.inl ⟨rfl, rfl⟩) _ r).mono ?_;rintro e w8 ⟨_, rfl, rfl, Z⟩;rw [b.out];go_wp2_with fail;go_ret;exact ⟨_, rfl, rfl, (zbt N Z)⟩
theorem rAa (p q : Rat) (k : Nat) (L : 0 < k) (h4 : k <= 20000) (s : Sz k p) (hq : Sz k q) (w : World) (V : Good w) :
 Calls Tryz.prog 16 #[.string (RS p), .string (RS q)] w (Ret (fun v _ => v = .string (RS (p + q))) w) := by
 have h8 := s.size L;have h9 := hq.size L;have f := s.num_size L;have d := hq.num_size L;have D := s.den_size L;have C := hq.den_size L;have HM : Hid (mkRat (p.num * (q.den : Int) + q.num * (p.den : Int)) (p.den * q.den) = p + q) := by unfold Hid; rw [Rat.add_def']
 have hd : 0 < p.den * q.den := Nat.mul_pos p.den_pos q.den_pos;have HD : Hid ((p.den : Int) * (q.den : Int) = ((p.den * q.den : Nat) : Int)) := by unfold Hid; omega
 have K := hid (mse (j := k + 1) (k := k + 1) (by omega) (by omega) f C);have J := hid (mse (j := k + 1) (k := k + 1) (by omega) (by omega) d D);have n := hid (ab0 (k := 2 * k + 3) (by omega) (a := p.num * (q.den : Int)) (b := q.num * (p.den : Int)) (by have := K.out; omega) (by have := J.out; omega));have o := hid (mse (j := k + 1) (k := k + 1) (by omega) (by omega) D C);clear s hq;have p8 := Re4 p;have q8 := Re4 q;by_cases hp0 : p = 0
 ·rw [decide_eq_true hp0] at p8
  have r : Hid (RS q = RS (p + q)) := by unfold Hid; rw [hp0, Rat.zero_add]
  clear hp0 q8;go_enter Tryz.func16, Tryz.ntmps16;go_wp2_with fail;go_ret;exact ⟨_, rfl, congrArg Value.string r.out, Below.refl _ _⟩
 rw [decide_eq_false hp0] at p8;clear hp0;by_cases hq0 : q = 0
 ·rw [decide_eq_true hq0] at q8
  have r : Hid (RS p = RS (p + q)) := by unfold Hid; rw [hq0, Rat.add_zero]
  clear hq0;go_enter Tryz.func16, Tryz.ntmps16;go_wp2_with fail;go_ret;exact ⟨_, rfl, congrArg Value.string r.out, Below.refl _ _⟩
 rw [decide_eq_false hq0] at q8;clear hq0;go_enter Tryz.func16, Tryz.ntmps16;go_wp2_with fail;refine (qQa p (by omega) _).mono ?_;rintro e w1 ⟨_, rfl, ⟨x, y, one, rfl, hx⟩, rfl⟩;rcases Bool.eq_false_or_eq_true one with m | m
 case' inl =>
  subst m;obtain ⟨B, A, c, h0⟩ := hx rfl;have I := hid B;have R := hid A;clear hx B A;go_wp2_with fail;refine (qQa q (by omega) _).mono ?_;rintro e w2 ⟨_, rfl, ⟨x2, t, h3, rfl, hy⟩, rfl⟩;rcases Bool.eq_false_or_eq_true h3 with l | l
 ·subst l
  obtain ⟨z, M, ha, hb⟩ := hy rfl;clear hy;have h5 := plm (x := x) (y := t) (by omega) (by omega);have h7 := plm (x := x2) (y := y) (by omega) (by omega);have h6 := plm (x := y) (y := t) (by omega) (by omega);have HE := hid (sQa (x * t + x2 * y) (p.den * q.den) (y * t) (by rw [R.out, M]; exact HD.out) hd (by omega) (by omega) w V);have HR : Hid (mkRat (x * t + x2 * y) (p.den * q.den) = p + q) := by unfold Hid; rw [I.out, z, R.out, M]; exact HM.out
  clear z M;go_wp2_with fail;refine HE.out.mono ?_;rintro e w3 ⟨_, rfl, rfl, Z⟩;rw [HR.out];go_wp2_with fail;go_ret;exact ⟨_, rfl, rfl, Z⟩
 all_goals
  first
  | subst l
    clear hy I R c h0
  | subst m
    clear hx
  go_upto_region 10 with fail
 all_goals
  go_wp2_with fail;refine ((prt p (by omega) _ V).mono fun _ _ h => h.ret).mono ?_;rintro e w4 ⟨_, rfl, rfl, Z⟩;have Q := Z;have i := V.below Q;clear Z;go_wp2_with fail;refine ((prt q (by omega) _ i).mono fun _ _ h => h.ret).mono ?_;rintro e w5 ⟨_, rfl, rfl, Z⟩;have O := zbt Q Z;clear Q Z;have G := V.below O;go_wp2_with fail;refine (ma0 p.num (q.den : Int) (by omega) (by omega) _ G).mono ?_;rintro e hc ⟨_, rfl, rfl, Z⟩;have Y := zbt O Z;clear O Z G;have U := V.below Y;go_wp2_with fail;refine (ma0 q.num (p.den : Int) (by omega) (by omega) _ U).mono ?_;rintro e he ⟨_, rfl, rfl, Z⟩;have X := zbt Y Z;clear Y Z U;have S := V.below X;go_wp2_with fail;refine (ac0 (p.num * (q.den : Int)) (q.num * (p.den : Int)) (by have := K.out; omega) (by have := J.out; omega) _ S).mono ?_;rintro e w6 ⟨_, rfl, rfl, Z⟩;have N := zbt X Z;clear X Z S;have E := V.below N;go_wp2_with fail;refine (ma0 (p.den : Int) (q.den : Int) (by omega) (by omega) _ E).mono ?_;rintro e w7 ⟨_, rfl, rfl, Z⟩;have H := zbt N Z;clear N Z E;have g := V.below H;go_wp2_with fail;refine (lIa (p.num * (q.den : Int) + q.num * (p.den : Int)) ((p.den : Int) * (q.den : Int)) (p.num * (q.den : Int) + q.num * (p.den : Int)) (p.den * q.den) _ HD.out hd (by have := n.out; omega) (by have := o.out; omega) (.inl ⟨rfl, rfl⟩) _ g).mono ?_;rintro e w8 ⟨_, rfl, rfl, Z⟩;rw [HM.out];go_wp2_with fail;go_ret;exact ⟨_, rfl, rfl, (zbt H Z)⟩
theorem rd0 (q : Rat) (O : (RS q).size <= 100000) (w : World) :
 Calls Tryz.prog 60 #[.string (RS q)] w (Drawn (fun v => v = .string (RS (-q))) w) := by
 have V := Re4 q;have X := Rps q;have Z := Rhd q X;have Y := @Rat.num_eq_zero q;obtain ⟨s, Q⟩ := zex (RS q);have S := hid Q;simp only [<- Q] at V X Z O ⊢;obtain ⟨c0, R⟩ : ∃ c0 : Nat, s[0].toNat = c0 := ⟨_, rfl⟩;rw [R] at Z;clear Q;rcases Int.lt_trichotomy q.num 0 with h | h | h
 ·have M : ((c0 : Int) == 45) = true := by rw [beq_iff_eq]; have := Z.2 h; omega
  rw [decide_eq_false (fun e => by have := Y.2 e; omega)] at V;have U : Hid (s.extract 1 s.size = RS (-q)) := by
   unfold Hid;apply bet;rw [bdp, Blt, S.out, Rlt, Rlt, Rng q h]
  clear Z Y h;go_enter Tryz.func60, Tryz.ntmps60;go_wp2_with fail;go_ret;exact ⟨_, rfl, congrArg Value.string U.out, dzo _⟩
 ·have N : Hid (s = RS (-q)) := by unfold Hid; rw [S.out, Y.1 h]; rfl
  rw [decide_eq_true (Y.1 h)] at V;clear Z Y h;go_enter Tryz.func60, Tryz.ntmps60;go_wp2_with fail;go_ret;exact ⟨_, rfl, congrArg Value.string N.out, dzo _⟩
 ·have M : ((c0 : Int) == 45) = false := by rw [beq_eq_false_iff_ne]; intro e; have := Z.1 (by omega); omega
  rw [decide_eq_false (fun e => by have := Y.2 e; omega)] at V;have U : Hid ((⟨#[45]⟩ : ByteArray) ++ s = RS (-q)) := by
   unfold Hid;apply bet; rw [ba0, S.out, Rlt, Rlt, <- Rh0 q h]; rfl
  clear Z Y h;go_enter Tryz.func60, Tryz.ntmps60;go_wp2_with fail;go_ret;exact ⟨_, rfl, congrArg Value.string U.out, dzo _⟩
theorem ra0 (q : Rat) (w : World) :
 Calls Tryz.prog 14 #[.string (RS q)] w (Drawn (fun v => v = .int .i64 q.num.sign) w) := by
 have V := Re4 q;have S := Rps q;have Z := Rhd q S;have Y := @Rat.num_eq_zero q;generalize RS q = s at *;have Q : (0 : Int) < (s.size : Int) := by omega
 obtain ⟨c0, U⟩ : ∃ c0 : Nat, s[0].toNat = c0 := ⟨_, rfl⟩;rw [U] at Z;rcases Int.lt_trichotomy q.num 0 with h | h | h
 ·have X : Hid (q.num.sign = -1) := Int.sign_eq_neg_one_of_neg h
  have R : ((c0 : Int) == 45) = true := by rw [beq_iff_eq]; have := Z.2 h; omega
  rw [decide_eq_false (fun e => by have := Y.2 e; omega)] at V;clear Z Y h;go_enter Tryz.func14, Tryz.ntmps14;go_wp2_with fail;go_ret;exact ⟨_, rfl, congrArg (Value.int .i64) X.out.symm, dzo _⟩
 ·have X : Hid (q.num.sign = 0) := by unfold Hid; rw [h]; rfl
  rw [decide_eq_true (Y.1 h)] at V;clear Z Y h;go_enter Tryz.func14, Tryz.ntmps14;go_wp2_with fail;go_ret;exact ⟨_, rfl, congrArg (Value.int .i64) X.out.symm, dzo _⟩
 ·have X : Hid (q.num.sign = 1) := Int.sign_eq_one_of_pos h
  have R : ((c0 : Int) == 45) = false := by rw [beq_eq_false_iff_ne]; intro e; have := Z.1 (by omega); omega
  rw [decide_eq_false (fun e => by have := Y.2 e; omega)] at V;clear Z Y h;go_enter Tryz.func14, Tryz.ntmps14;go_wp2_with fail;go_ret;exact ⟨_, rfl, congrArg (Value.int .i64) X.out.symm, dzo _⟩
theorem rSa (p q : Rat) (k : Nat) (U : 0 < k) (X : k <= 20000) (S : Sz k p) (hq : Sz k q) (w : World) (N : Good w) :
 Calls Tryz.prog 23 #[.string (RS p), .string (RS q)] w (Ret (fun v _ => v = .string (RS (p - q))) w) := by
 have V : (RS q).size <= 100000 := Nat.le_trans (hq.size U) (by omega);have R : Hid (p + -q = p - q) := by unfold Hid; rw [Rat.sub_eq_add_neg]
 have Q := hid S;have O := hid hq.neg;clear S hq;go_enter Tryz.func23, Tryz.ntmps23;go_wp2_with fail;refine ((rd0 q V _).mono fun _ _ h => h.ret).mono ?_;rintro e M ⟨_, rfl, rfl, Z⟩;go_wp2_with fail;refine (rAa p (-q) k U X Q.out O.out _ (N.below Z)).mono ?_;rintro e L ⟨_, rfl, rfl, Y⟩;rw [R.out];go_wp2_with fail;go_ret;exact ⟨_, rfl, rfl, (zbt Z Y)⟩
theorem Rg0 (p q : Rat) : ((RS p).toList == (RS q).toList) = decide (p = q) := by rw [btL, btL, Rlt, Rlt, Rbq]
theorem cQc (p q : Rat) : cmpQ p q = cmpZ (p.num * (q.den : Int)) (q.num * (p.den : Int)) := by
 unfold cmpQ cmpZ;simp only [Rat.lt_iff]
theorem cQs (p : Rat) : cmpQ p p = 0 := by
 unfold cmpQ; rw [if_neg (Rat.lt_irrefl), if_neg (Rat.lt_irrefl)]
theorem rCa (p q : Rat) (k : Nat) (R : 0 < k) (c : k <= 20000) (C : Sz k p) (hq : Sz k q) (w : World) (D : Good w) :
 Calls Tryz.prog 62 #[.string (RS p), .string (RS q)] w (Ret (fun v _ => v = .int .i64 (cmpQ p q)) w) := by
 have h0 := C.size R;have h3 := hq.size R;have o := C.num_size R;have m := hq.num_size R;have r := C.den_size R;have n := hq.den_size R;have B := hid (cQc p q);have A := hid (mse (j := k + 1) (k := k + 1) (by omega) (by omega) o n);have z := hid (mse (j := k + 1) (k := k + 1) (by omega) (by omega) m r);clear C hq;have f := Rg0 p q;by_cases hpq : p = q
 ·rw [decide_eq_true hpq] at f
  have V : Hid (cmpQ p q = 0) := by unfold Hid; rw [hpq, cQs]
  clear hpq;go_enter Tryz.func62, Tryz.ntmps62;go_wp2_with fail;go_ret;exact ⟨_, rfl, congrArg (Value.int .i64) V.out.symm, Below.refl _ _⟩
 rw [decide_eq_false hpq] at f;clear hpq;go_enter Tryz.func62, Tryz.ntmps62;go_wp2_with fail;refine (qQa p (by omega) _).mono ?_;rintro e w1 ⟨_, rfl, ⟨x, y, one, rfl, hx⟩, rfl⟩;rcases Bool.eq_false_or_eq_true one with t | t
 case' inl =>
  subst t;obtain ⟨I, H, l, i⟩ := hx rfl;have O := hid I;have N := hid H;clear hx I H;go_wp2_with fail;refine (qQa q (by omega) _).mono ?_;rintro e w2 ⟨_, rfl, ⟨x2, Q, g, rfl, hy⟩, rfl⟩;rcases Bool.eq_false_or_eq_true g with s | s
 ·subst s
  obtain ⟨G, E, h4, h7⟩ := hy rfl;clear hy;have b := plm (x := x) (y := Q) (by omega) (by omega);have a := plm (x := x2) (y := y) (by omega) (by omega);have S : Hid (cmpQ p q = cmpZ (x * Q) (x2 * y)) := by unfold Hid; rw [O.out, G, N.out, E]; exact B.out
  clear G E B;rcases Int.lt_trichotomy (x * Q) (x2 * y) with h | h | h
  ·have V : Hid (cmpQ p q = -1) := S.out.trans (cZl h)
   clear S;go_wp2_with fail;go_ret;exact ⟨_, rfl, congrArg (Value.int .i64) V.out.symm, Below.refl _ _⟩
  ·have V : Hid (cmpQ p q = 0) := S.out.trans (by unfold cmpZ; rw [if_neg (by omega), if_neg (by omega)])
   have HH := hid h;have d : ¬ (x * Q < x2 * y) := by omega
   have h6 : ¬ (x2 * y < x * Q) := by omega
   clear S h;go_wp2_with fail;go_ret;exact ⟨_, rfl, congrArg (Value.int .i64) V.out.symm, Below.refl _ _⟩
  ·have V : Hid (cmpQ p q = 1) := S.out.trans (cZg h)
   have d : ¬ (x * Q < x2 * y) := by omega
   clear S;go_wp2_with fail;go_ret;exact ⟨_, rfl, congrArg (Value.int .i64) V.out.symm, Below.refl _ _⟩
 all_goals
  first
  | subst s
    clear hy O N l i
  | subst t
    clear hx
  go_upto_region 13 with fail
 all_goals
  go_wp2_with fail;refine ((prt p (by omega) _ D).mono fun _ _ h => h.ret).mono ?_;rintro e w4 ⟨_, rfl, rfl, Z⟩;have K := D.below Z;go_wp2_with fail;refine ((prt q (by omega) _ K).mono fun _ _ h => h.ret).mono ?_;rintro e w5 ⟨_, rfl, rfl, M⟩;have U := zbt Z M;clear M Z K;have J := D.below U;go_wp2_with fail;refine (ma0 p.num (q.den : Int) (by omega) (by omega) _ J).mono ?_;rintro e h8 ⟨_, rfl, rfl, Z⟩;have Y := zbt U Z;clear U Z J;have X := D.below Y;go_wp2_with fail;refine (ma0 q.num (p.den : Int) (by omega) (by omega) _ X).mono ?_;rintro e h9 ⟨_, rfl, rfl, Z⟩;have L := zbt Y Z;clear Y Z X;go_wp2_with fail;refine (ce0 (p.num * (q.den : Int)) (q.num * (p.den : Int)) (by have := A.out; omega) (by have := z.out; omega) _).mono ?_;rintro e ha ⟨_, rfl, rfl, rfl⟩;rw [<- B.out];go_wp2_with fail;go_ret;exact ⟨_, rfl, rfl, L⟩
theorem ij0 (q : Rat) (h : q.num ≠ 0) (x : Int) (hx : x = if q.num < 0 then -(q.den : Int) else (q.den : Int)) :
 ((q.num.natAbs : Int) = 1 -> IS x = RS q⁻¹) /\ ((q.num.natAbs : Int) ≠ 1 -> (IS x ++ ⟨#[47]⟩) ++ IS (q.num.natAbs : Int) = RS q⁻¹) := by
 obtain ⟨n, Y, Q⟩ := imR q h;have U : x = n := by
  rw [hx];rcases Y with ⟨X, Z⟩ | ⟨X, Z⟩
  ·rw [if_neg (by omega), Z]
  ·rw [if_pos (by omega), Z]; omega
 have V : n.natAbs = q.den := by rcases Y with ⟨X, Z⟩ | ⟨X, Z⟩ <;> omega
 have R : 1 = Nat.gcd n.natAbs q.num.natAbs := by
  rw [V, Nat.gcd_comm]; exact Eq.symm q.reduced
 have S := RmR (n := n) (d := q.num.natAbs) (g := 1) (by omega) R (x := x) (y := (q.num.natAbs : Int)) (by rw [U, show ((1 : Nat) : Int) = 1 from rfl, Int.tdiv_one]) (by rw [Nat.div_one]);rw [Q] at S;exact S
theorem rDa (p q : Rat) (k : Nat) (U : 0 < k) (Q : k <= 20000) (A : Sz k p) (hq : Sz k q) (K : q ≠ 0) (w : World) (V : Good w) :
 Calls Tryz.prog 179 #[.string (RS p), .string (RS q)] w (Ret (fun v _ => v = .tuple #[.string (RS (p / q)), .int .i64 0]) w) := by
 have Y : q.num ≠ 0 := fun e => K (Rat.num_eq_zero.1 e);have B := hid (ij0 q Y);have E : Hid (p * q⁻¹ = p / q) := by unfold Hid; rw [Rat.div_def]
 have D := hid A;have C := hid (hq.inv U);have O := hq.num_size U;have I := hq.den_size U;have r := hq.size U;have y := nse O;have t : (IS (q.num.natAbs : Int)).size <= k + 1 := ase O;have z := nse I;have x := Re4 q;rw [decide_eq_false K] at x;have H := Rps q;have R := Rhd q H;have S := fun w V => hid (prt q (by omega) w V)
 clear A hq K;generalize RS q = s at *;obtain ⟨c0, J⟩ : ∃ c0 : Nat, s[0].toNat = c0 := ⟨_, rfl⟩;rw [J] at R;rcases Int.lt_or_lt_of_ne Y with h | h
 ·have o : ((c0 : Int) == 45) = true := by rw [beq_iff_eq]; have := R.2 h; omega
  have N : Hid (-q.num = (q.num.natAbs : Int)) := by unfold Hid; omega
  have M := hid (B.out (-(q.den : Int)) (by rw [if_pos h]));clear R h Y;go_enter Tryz.func179, Tryz.ntmps179;go_wp2_with fail;refine ((S _ V).out.mono fun _ _ h => h.ret).mono ?_;rintro e n ⟨_, rfl, rfl, Z⟩;go_wp2_with fail;refine (na0 q.num (by omega) _).mono ?_;rintro e G ⟨_, rfl, rfl, rfl⟩;go_wp2_with fail;refine (na0 (q.den : Int) (by omega) _).mono ?_;rintro e G ⟨_, rfl, rfl, rfl⟩;rw [N.out];go_wp2_with fail;refine (jQa (-(q.den : Int)) (q.num.natAbs : Int) (RS q⁻¹) M.out (by omega) (by omega) _).mono ?_;rintro e G ⟨_, rfl, rfl, rfl⟩;go_wp2_with fail;refine (rMa p q⁻¹ k U Q D.out C.out _ (V.below Z)).mono ?_;rintro e m ⟨_, rfl, rfl, X⟩;rw [E.out];go_wp2_with fail;go_ret2;exact ⟨_, rfl, rfl, (zbt Z X)⟩
 ·have o : ((c0 : Int) == 45) = false := by rw [beq_eq_false_iff_ne]; intro e; have := R.1 (by omega); omega
  have N : Hid (q.num = (q.num.natAbs : Int)) := by unfold Hid; omega
  have M := hid (B.out (q.den : Int) (by rw [if_neg (by omega)]));clear R h Y;go_enter Tryz.func179, Tryz.ntmps179;go_wp2_with fail;refine ((S _ V).out.mono fun _ _ h => h.ret).mono ?_;rintro e n ⟨_, rfl, rfl, Z⟩;go_upto_region 6 with fail;have L := hid (jQa (q.den : Int) q.num (RS q⁻¹) (by rw [N.out]; exact M.out) (by omega) (by omega));go_wp2_with fail;refine (L.out _).mono ?_;rintro e G ⟨_, rfl, rfl, rfl⟩;go_wp2_with fail;refine (rMa p q⁻¹ k U Q D.out C.out _ (V.below Z)).mono ?_;rintro e m ⟨_, rfl, rfl, X⟩;rw [E.out];go_wp2_with fail;go_ret2;exact ⟨_, rfl, rfl, (zbt Z X)⟩
theorem sne {b : Int} (h : b ≠ 0) : b.sign ≠ 0 := fun e => h (Int.sign_eq_zero_iff_zero.1 e)
theorem rNa (a b n : Int) (d : Nat) (U : Int) (V : U = (d : Int)) (K : 0 < d) (N : (IS a).size <= 90000) (M : (IS b).size <= 90000)
 (Y : (b = U /\ a = n) \/ (b = -U /\ a = -n)) (w : World) (J : Good w) :
 Calls Tryz.prog 156 #[.string (IS a), .string (IS b)] w (Ret (fun v _ => v = .tuple #[.string (RS (mkRat n d)), .int .i64 0]) w) := by
 have X : b ≠ 0 := by omega
 have L := sne X;obtain ⟨I, Z⟩ := zex (b.sign);rw [<- Z] at L;have Q := hid Z;have R := hid V;have S := hid Y;have H : (I == 0) = false := by rw [beq_eq_false_iff_ne]; exact L
 clear Z V Y X;go_enter Tryz.func156, Tryz.ntmps156;go_wp2_with fail;refine (sb0 b _).mono ?_;rintro e G ⟨_, rfl, rfl, rfl⟩;rw [<- Q.out];go_wp2_with fail;refine (lIa a b n d U R.out K N M S.out _ J).mono ?_;rintro e E ⟨_, rfl, rfl, O⟩;go_wp2_with fail;go_ret2;exact ⟨_, rfl, rfl, O⟩
theorem rOa (a b n : Int) (d : Nat) (R : Int) (U : R = (d : Int)) (K : 0 < d) (H : -9223372036854775808 <= a /\ a <= 9223372036854775807) (G : -9223372036854775808 <= b /\ b <= 9223372036854775807)
 (Y : (b = R /\ a = n) \/ (b = -R /\ a = -n)) (w : World) (M : Good w) :
 Calls Tryz.prog 119 #[.int .i64 a, .int .i64 b] w (Ret (fun v _ => v = .tuple #[.string (RS (mkRat n d)), .int .i64 0]) w) := by
 have J := Is2 (x := a) (by omega);have I := Is2 (x := b) (by omega);have O := hid U;have Q := hid Y;clear U Y;go_enter Tryz.func119, Tryz.ntmps119;go_wp2_with fail;refine (ob0 a (by omega) (by omega) _ M).mono ?_;rintro e E ⟨_, rfl, rfl, Z⟩;have S := M.below Z;go_wp2_with fail;refine (ob0 b (by omega) (by omega) _ S).mono ?_;rintro e D ⟨_, rfl, rfl, X⟩;have V := zbt Z X;clear Z X S;have L := M.below V;go_wp2_with fail;refine (rNa a b n d R O.out K (by omega) (by omega) Q.out _ L).mono ?_;rintro e C ⟨_, rfl, rfl, N⟩;go_wp2_with fail;go_ret2;exact ⟨_, rfl, rfl, (zbt V N)⟩
theorem oQa (a b n : Int) (d : Nat) (R : Int) (U : R = (d : Int)) (K : 0 < d) (H : -9223372036854775808 <= a /\ a <= 9223372036854775807) (G : -9223372036854775808 <= b /\ b <= 9223372036854775807)
 (Y : (b = R /\ a = n) \/ (b = -R /\ a = -n)) (w : World) (M : Good w) :
 Calls Tryz.prog 39 #[.int .i64 a, .int .i64 b] w (Ret (fun v _ => v = .string (RS (mkRat n d))) w) := by
 have J := Is2 (x := a) (by omega);have I := Is2 (x := b) (by omega);have O := hid U;have Q := hid Y;clear U Y;go_enter Tryz.func39, Tryz.ntmps39;go_wp2_with fail;refine (oRa a (by omega) (by omega) _ M).mono ?_;rintro e E ⟨_, rfl, rfl, Z⟩;have S := M.below Z;go_wp2_with fail;refine (oRa b (by omega) (by omega) _ S).mono ?_;rintro e D ⟨_, rfl, rfl, X⟩;have V := zbt Z X;clear Z X S;have L := M.below V;go_wp2_with fail;refine (fQa a b n d R O.out K (by omega) (by omega) Q.out _ L).mono ?_;rintro e C ⟨_, rfl, rfl, N⟩;go_wp2_with fail;go_ret;exact ⟨_, rfl, rfl, (zbt V N)⟩
def RdQ (w : World) (v : Value) (l : List Rat) : Prop := RdC 1 w v l.length (l.map fun q => Value.string (RS q))
theorem RdQ.open {w : World} {v : Value} {l : List Rat} (h : RdQ w v l) : ∃ p c, v = .slice p l.length c /\ l.length <= c /\ c <= maxLen /\
 (l ≠ [] -> ∃ b off, p = some ⟨b, off, none⟩ /\ b < w.heap.size /\ ∀ (i : Nat) (Y : i < l.length), w.cell? ⟨b, off + i, none⟩ = some (.string (RS l[i]))) := by
 obtain ⟨p, c, O, V, U, N, S⟩ := h;refine ⟨p, c, O, V, U, fun hne => ?_⟩;obtain ⟨b, off, Q, R⟩ := S (by simpa using hne);have Z : ∀ (i : Nat) (Y : i < l.length), w.cell? ⟨b, off + i, none⟩ = some (.string (RS l[i])) := fun i Y => R i _ (by simp [Y])
 have X : 0 < l.length := List.length_pos_iff.2 hne;exact ⟨b, off, Q, World.block_lt_of_cell? w _ (Z 0 X), Z⟩
theorem fh0 (l : List Rat) (i : Nat) (h : i < l.length) : (l.take (i + 1)).foldl (· + ·) 0 = (l.take i).foldl (· + ·) 0 + l[i] := by
 rw [List.take_succ_eq_append_getElem h, List.foldl_append]; rfl
theorem rb0 (l : List Rat) (k : Nat) (d : 0 < k) (U : l.length * (k + 1) + 1 <= 20000) (D : ∀ q ∈ l, Sz k q) (v : Value) (w : World) (C : RdQ w v l) (m : Good w) :
 Calls Tryz.prog 26 #[v] w (Ret (fun r _ => r = .string (RS (l.foldl (·+ ·) 0))) w) := by
 obtain ⟨p, c, rfl, j, n, M⟩ := C.open;clear C;have A := hid D;have t := hid M;clear D M;have g : l.length <= 20000 := by
  have : l.length * 1 <= l.length * (k + 1) := Nat.mul_le_mul_left _ (by omega);omega
 have V := hid U;clear U;go_enter Tryz.func26, Tryz.ntmps26;go_wp2_with fail;go_loopw [3, 8] (fun t3 t8 wr => ∃ (i : Nat) (s : Rat), t3 = .string (RS s) /\ t8 = .int .i64 i /\ i <= l.length /\ Hid (s = (l.take i).foldl (·+ ·) 0) /\ Hid (Sz (i * (k + 1) + 1) s) /\ Below w.heap.size w wr) (fun _ t8 _ => l.length - (RowKit.intOf t8).toNat)
 case atStart => exact ⟨0, 0, congrArg Value.string RS_zero.symm, rfl, Nat.zero_le _, rfl, Sz.zero _ (by omega), Below.refl _ _⟩
 case round =>
  obtain ⟨i, s, rfl, rfl, f, L, K, Y⟩ := hrel;rcases Nat.lt_or_ge i l.length with h | h
  ·obtain ⟨b, off, rfl, E, Z⟩ := t.out (by intro e; rw [e] at h; simp at h)
   have o : wr.cell? ⟨b, off + i, none⟩ = some (.string (RS l[i])) := (zcq Y E (Z i h) :);have X := A.out l[i] (List.getElem_mem h);have S := fh0 l i h;obtain ⟨x, hx⟩ := zex (l[i]);rw [<- hx] at o X S;have y : Hid (s + x = (l.take (i + 1)).foldl (·+ ·) 0) := by unfold Hid; rw [S, L.out]
   have N : (i + 1) * (k + 1) <= l.length * (k + 1) := Nat.mul_le_mul_right _ h;have Q : (i + 1) * (k + 1) = i * (k + 1) + (k + 1) := Nat.succ_mul _ _;have J : Hid (Sz ((i + 1) * (k + 1) + 1) (s + x)) := (K.out.add X).mono (by omega);have I : Hid (Sz 20000 s) := K.out.mono (by have := V.out; omega);have H : Hid (Sz 20000 x) := X.mono (by have := V.out; omega);have O := m.below Y;clear hx X S N Q Z L K;go_wp2_with fail;refine (rAa s x 20000 (by omega) (by omega) I.out H.out _ O).mono ?_;rintro e a ⟨_, rfl, rfl, R⟩;have G := zbt Y R;clear R O;go_wp2_with fail;go_roundw
   case rel => exact ⟨i + 1, s + x, rfl, by go_num, h, y, J, G⟩
   case measure => simp [RowKit.intOf]; omega
  ·have B : Hid (s = l.foldl (·+ ·) 0) := by have := L.out; rw [List.take_of_length_le h] at this; exact this
   clear L K;go_wp2_with fail;go_ret;exact ⟨_, rfl, congrArg (fun z => Value.string (RS z)) B.out, Y⟩
def valI (l : List UInt8) : Int := (atoi l).getD 0
theorem vIi (n : Int) : valI (itoa n) = n := by unfold valI; rw [aia]; rfl
def fitB (a b : Int) : Bool := decide (1 < b) && !(decide (a = 0)) && decide (Int.gcd a b = 1)
def rQQ (l : List UInt8) : Bool := rII (fst47 l) && (decide (indexByte l 47 < 0) || (rII (snd47 l) && fitB (valI (fst47 l)) (valI (snd47 l))))
theorem rIv {l : List UInt8} (h : rII l = true) : l = itoa (valI l) /\ (BS l).size <= 201 := by
 unfold rII at h;rw [Bool.and_eq_true] at h;obtain ⟨n, Z⟩ := cBv h.1;have Y := of_decide_eq_true h.2;refine ⟨by rw [Z, vIi], ?_⟩;rw [Z, itm] at Y;rw [Bse, Z, iln];rw [decDigits_length] at Y;split <;> omega
theorem cut47 (l : List UInt8) : cut l [47] = if indexByte l 47 < 0 then (l, [], false) else (fst47 l, snd47 l, true) := by
 unfold cut fst47 snd47;rw [index_one];by_cases h : 0 <= indexByte l 47
 ·rw [if_pos h, if_neg (by omega), if_pos h, if_pos h]; rfl
 ·rw [if_neg h, if_pos (by omega)]
theorem eok {l : List UInt8} (h : rQQ l = true) : 0 = eNm (rQQ l) := by rw [h]; rfl
theorem ebd {l : List UInt8} (h : rQQ l = false) : 2 = eNm (rQQ l) := by rw [h]; rfl
theorem cQa (s : ByteArray) (hs : s.size < 1000000000) (w : World) (hg : Good w) :
 Calls Tryz.prog 49 #[.string s] w (Ret (fun v _ => v = .int .i64 (eNm (rQQ s.data.toList))) w) := by
 obtain ⟨l, m⟩ := zex (s.data.toList);have o := hid (cut47 l);obtain ⟨A, hA⟩ := zex (fst47 l);obtain ⟨D, n⟩ := zex (snd47 l);have i : Hid (rQQ l = (rII A && (decide (indexByte l 47 < 0) || (rII D && fitB (valI A) (valI D))))) := by unfold Hid rQQ; rw [hA, n]
 rw [<- hA, <- n] at o;have r : indexByte l 47 < 0 -> A = l := fun h => by rw [hA]; unfold fst47; rw [if_neg (by omega)]
 have C := hid r;have B : (BS A).data.toList = A := Blt A;have y : (BS D).data.toList = D := Blt D;rw [<- m];have R := hid (ck0 s hs w hg);rw [<- m] at R;have O := hid (cIa (BS A));have K := hid (cIa (BS D));rw [B] at O;rw [y] at K;have Y : l.length = s.size := by rw [m, Array.length_toList]; rfl
 have G : (BS A).size <= 1000000000000 := by
  rw [Bse, hA]; unfold fst47; split
  ·rw [List.length_take]; omega
  ·omega
 have q : (BS D).size <= 1000000000000 := by
  rw [Bse, n]; unfold snd47; split
  ·rw [List.length_drop]; omega
  ·simp
 clear hA n m r B y Y;by_cases Y : indexByte l 47 < 0
 ·have L : Hid (cut l [47] = (A, [], false)) := by unfold Hid; rw [o.out, if_pos Y, C.out Y]
  have Q : Hid (rQQ l = rII A) := by unfold Hid; rw [i.out, decide_eq_true Y]; simp
  clear Y;go_enter Tryz.func49, Tryz.ntmps49;go_wp2_with fail;refine (R.out.mono fun _ _ h => h.ret).mono ?_;rintro e w1 ⟨_, rfl, rfl, Z⟩;rw [L.out];go_wp2_with fail;refine (O.out G _).mono ?_;rintro e E ⟨_, rfl, rfl, rfl⟩;rw [<- Q.out];rcases Bool.eq_false_or_eq_true (rQQ l) with h | h
  ·have X := hid (eok h)
   rw [h, show eNm true = 0 from rfl];clear h;go_wp2_with fail;go_ret;exact ⟨_, rfl, congrArg (Value.int .i64) X.out, Z⟩
  ·have X := hid (ebd h)
   rw [h, show eNm false = 2 from rfl];clear h;go_wp2_with fail;go_ret;exact ⟨_, rfl, congrArg (Value.int .i64) X.out, Z⟩
 ·have L : Hid (cut l [47] = (A, D, true)) := by unfold Hid; rw [o.out, if_neg Y]
  have Q : Hid (rQQ l = (rII A && (rII D && fitB (valI A) (valI D)))) := by unfold Hid; rw [i.out, decide_eq_false Y]; simp
  clear Y;go_enter Tryz.func49, Tryz.ntmps49;go_wp2_with fail;refine (R.out.mono fun _ _ h => h.ret).mono ?_;rintro e w1 ⟨_, rfl, rfl, Z⟩;rw [L.out];go_wp2_with fail;refine (O.out G _).mono ?_;rintro e E ⟨_, rfl, rfl, rfl⟩;rcases Bool.eq_false_or_eq_true (rII A) with V | V
  ·rw [V, show eNm true = 0 from rfl]
   go_wp2_with fail;refine (K.out q _).mono ?_;rintro e E ⟨_, rfl, rfl, rfl⟩;rcases Bool.eq_false_or_eq_true (rII D) with U | U
   ·rw [U, show eNm true = 0 from rfl]
    obtain ⟨a, f⟩ := zex (valI A);obtain ⟨b, c⟩ := zex (valI D);obtain ⟨x, d⟩ := rIv V;obtain ⟨t, h0⟩ := rIv U;have N : Hid (rQQ l = fitB a b) := by unfold Hid; rw [Q.out, V, U, f, c]; rfl
    have eA : BS A = IS a := by rw [x, f]; rfl
    have eD : BS D = IS b := by rw [t, c]; rfl
    rw [eA] at d ⊢;rw [eD] at h0 ⊢;clear f c x t eA eD V U O K i Q o L R C G q;have S : ∀ w, Hid (Calls Tryz.prog 89 #[.string (IS b), .string ⟨#[49]⟩] w (Same (fun v => v = .int .i64 (cmpZ b 1)) w)) := fun w => by
     have h := ce0 b 1 (by omega) (by rw [Ioe]; decide) w;rw [Ioe] at h; exact h
    by_cases hb1' : 1 < b
    ·have J : Hid (cmpZ b 1 = 1) := cZg hb1'
     have h8 := Ie4 a;by_cases ha0 : a = 0
     ·rw [decide_eq_true ha0] at h8
      have X := hid (ebd (l := l) (by rw [N.out]; unfold fitB; rw [decide_eq_true ha0]; simp));clear hb1' ha0;go_wp2_with fail;refine (S _).out.mono ?_;rintro e E ⟨_, rfl, rfl, rfl⟩;rw [J.out];go_wp2_with fail;go_ret;exact ⟨_, rfl, congrArg (Value.int .i64) X.out, Z⟩
     ·rw [decide_eq_false ha0] at h8
      have h1 := hg.below Z;have j := hid (gay a b (by omega) (by omega) _ h1);obtain ⟨g, H⟩ := zex ((Int.gcd a b : Nat) : Int);rw [<- H] at j;have h9 := Ia0 g;have M := In4 g;by_cases hg1 : g = 1
      ·rw [decide_eq_true hg1] at h9 M
       rw [Bool.not_true] at M;have X := hid (eok (l := l) (by rw [N.out]; unfold fitB; rw [decide_eq_true hb1', decide_eq_false ha0, decide_eq_true (by omega)]; rfl));clear hb1' ha0 hg1 H;go_wp2_with fail;refine (S _).out.mono ?_;rintro e E ⟨_, rfl, rfl, rfl⟩;rw [J.out];go_wp2_with fail;refine j.out.mono ?_;rintro e w3 ⟨_, rfl, rfl, I⟩;go_wp2_with fail;go_ret;exact ⟨_, rfl, congrArg (Value.int .i64) X.out, (zbt Z I)⟩
      ·rw [decide_eq_false hg1] at h9 M
       rw [Bool.not_false] at M;have X := hid (ebd (l := l) (by rw [N.out]; unfold fitB; rw [decide_eq_false (p := Int.gcd a b = 1) (by omega)]; simp));clear hb1' ha0 hg1 H;go_wp2_with fail;refine (S _).out.mono ?_;rintro e E ⟨_, rfl, rfl, rfl⟩;rw [J.out];go_wp2_with fail;refine j.out.mono ?_;rintro e w3 ⟨_, rfl, rfl, I⟩;go_wp2_with fail;go_ret;exact ⟨_, rfl, congrArg (Value.int .i64) X.out, (zbt Z I)⟩
    ·have J : ∃ z, z <= 0 /\ Hid (cmpZ b 1 = z) := ⟨cmpZ b 1, by unfold cmpZ; rw [if_neg hb1']; split <;> omega, rfl⟩
     obtain ⟨z, hz, J⟩ := J;have X := hid (ebd (l := l) (by rw [N.out]; unfold fitB; rw [decide_eq_false hb1']; rfl));clear hb1';go_wp2_with fail;refine (S _).out.mono ?_;rintro e E ⟨_, rfl, rfl, rfl⟩;rw [J.out];go_wp2_with fail;go_ret;exact ⟨_, rfl, congrArg (Value.int .i64) X.out, Z⟩
   ·have k : Hid (rQQ l = false) := by unfold Hid; rw [Q.out, U]; simp
    rw [U, show eNm false = 2 from rfl];have X := hid (ebd k.out);go_wp2_with fail;go_ret;exact ⟨_, rfl, congrArg (Value.int .i64) X.out, Z⟩
  ·have k : Hid (rQQ l = false) := by unfold Hid; rw [Q.out, V]; rfl
   rw [V, show eNm false = 2 from rfl];have X := hid (ebd k.out);go_wp2_with fail;go_ret;exact ⟨_, rfl, congrArg (Value.int .i64) X.out, Z⟩
theorem rIl {l : List UInt8} (h : rII l = true) : (valI l).natAbs < 10 ^ 200 := by
 have Y := (rIv h).1;unfold rII at h;rw [Bool.and_eq_true] at h;have Z := of_decide_eq_true h.2;rw [Y, itm] at Z;exact (ldD _ 200 (by omega)).1 Z
theorem s47 {l : List UInt8} (h : 0 <= indexByte l 47) : l = fst47 l ++ 47 :: snd47 l := by
 unfold fst47 snd47;rw [if_pos h, if_pos h];obtain ⟨k, Y⟩ : ∃ k : Nat, indexByte l 47 = k := ⟨(indexByte l 47).toNat, by omega⟩;have X := (indexByte_some Y).1;have V := (List.getElem?_eq_some_iff.1 X);obtain ⟨U, S⟩ := V;rw [Y];have e : ((k : Int)).toNat = k := by omega
 rw [e];have Z := List.drop_eq_getElem_cons U;rw [S] at Z;rw [<- Z, List.take_append_drop]
theorem rQv {l : List UInt8} (h : rQQ l = true) : ∃ q : Rat, l = RL q /\ Sz 200 q := by
 unfold rQQ at h;rw [Bool.and_eq_true, Bool.or_eq_true, Bool.and_eq_true] at h;obtain ⟨U, Z⟩ := h;have Y := (rIv U).1;have V := rIl U;by_cases hi : indexByte l 47 < 0
 ·have e : fst47 l = l := by unfold fst47; rw [if_neg (by omega)]
  rw [e] at Y V;refine ⟨((valI l : Int) : Rat), by rw [Rit]; exact Y, ?_⟩;unfold Sz;rw [Rat.num_intCast, Rat.den_intCast];exact ⟨V, by decide⟩
 ·rcases Z with Z | ⟨Z, X⟩
  ·exact absurd (of_decide_eq_true Z) hi
  ·have S := (rIv Z).1
   have M := rIl Z;generalize valI (fst47 l) = a at *;generalize valI (snd47 l) = b at *;unfold fitB at X;rw [Bool.and_eq_true, Bool.and_eq_true] at X;obtain ⟨⟨R, _⟩, Q⟩ := X;have L := of_decide_eq_true R;have O := of_decide_eq_true Q;have N := s47 (l := l) (by omega);refine ⟨⟨a, b.natAbs, by omega, O⟩, ?_, V, M⟩;rw [Rdn (by show b.natAbs ≠ 1; omega), N, Y, S, ing (n := b) (by omega)]
theorem rIo {n : Int} (h : n.natAbs < 10 ^ 200) : rII (itoa n) = true := by
 unfold rII;rw [cBi, itm, Bool.true_and];exact decide_eq_true ((ldD _ 200 (by omega)).2 h)
theorem rQR {q : Rat} (h : Sz 200 q) : rQQ (RL q) = true := by
 unfold rQQ;rw [f4R, rIo h.1, Bool.true_and, s4R];by_cases hd : q.den = 1
 ·rw [Rio hd]; rfl
 ·have e : decDigits q.den = itoa (q.den : Int) := (ib0 q.den).symm
  rw [e, vIi, vIi, rIo (n := (q.den : Int)) h.2, Bool.true_and];have V := q.den_pos;have Z : Int.gcd q.num (q.den : Int) = 1 := q.reduced;have X : q.num ≠ 0 := by
   intro Y;rw [Y] at Z;have : Int.gcd 0 (q.den : Int) = q.den := by simp
   omega
  unfold fitB;rw [decide_eq_true (by omega : (1 : Int) < (q.den : Int)), decide_eq_false X, decide_eq_true Z];simp
theorem RdS.open {w : World} {v : Value} {l : List ByteArray} (h : RdS w v l) : ∃ p c, v = .slice p l.length c /\ l.length <= c /\ c <= maxLen /\
 (l ≠ [] -> ∃ b off, p = some ⟨b, off, none⟩ /\ b < w.heap.size /\ ∀ (i : Nat) (Y : i < l.length), w.cell? ⟨b, off + i, none⟩ = some (.string l[i])) := by
 obtain ⟨p, c, O, V, U, N, S⟩ := h;refine ⟨p, c, O, V, U, fun hne => ?_⟩;obtain ⟨b, off, Q, R⟩ := S (by simpa using hne);have Z : ∀ (i : Nat) (Y : i < l.length), w.cell? ⟨b, off + i, none⟩ = some (.string l[i]) := fun i Y => R i _ (by simp [Y])
 have X : 0 < l.length := List.length_pos_iff.2 hne;exact ⟨b, off, Q, World.block_lt_of_cell? w _ (Z 0 X), Z⟩
def allQ (l : List ByteArray) : Bool := l.all fun s => rQQ s.data.toList
theorem aQs (l : List ByteArray) (i : Nat) (h : i < l.length) : allQ (l.drop i) = (rQQ l[i].data.toList && allQ (l.drop (i + 1))) := by
 rw [List.drop_eq_getElem_cons h]; rfl
theorem nay (l : List ByteArray) (J : l.length <= 1000000) (K : ∀ s ∈ l, s.size < 1000000000) (v : Value) (w : World) (I : RdS w v l) (B : Good w) :
 Calls Tryz.prog 146 #[v] w (Ret (fun r _ => r = .int .i64 (eNm (allQ l))) w) := by
 obtain ⟨p, c, rfl, A, C, Q⟩ := I.open;clear I;have G := hid K;have E := hid Q;clear K Q;go_enter Tryz.func146, Tryz.ntmps146;go_wp2_with fail;go_loopw [8] (fun t8 wr => ∃ (i : Nat), t8 = .int .i64 i /\ i <= l.length /\ Hid (allQ l = allQ (l.drop i)) /\ Below w.heap.size w wr) (fun t8 _ => l.length - (RowKit.intOf t8).toNat)
 case atStart => exact ⟨0, rfl, Nat.zero_le _, rfl, Below.refl _ _⟩
 case round =>
  obtain ⟨i, rfl, z, N, X⟩ := hrel;rcases Nat.lt_or_ge i l.length with h | h
  ·obtain ⟨b, off, rfl, L, Z⟩ := E.out (by intro e; rw [e] at h; simp at h)
   have D : wr.cell? ⟨b, off + i, none⟩ = some (.string l[i]) := (zcq X L (Z i h) :);have O := G.out l[i] (List.getElem_mem h);have V := N.out.trans (aQs l i h);obtain ⟨x, hx⟩ := zex (l[i]);rw [<- hx] at D O V;have Y := hid V;have R := B.below X;clear hx V Z N;go_wp2_with fail;refine (cQa x O _ R).mono ?_;rintro e y ⟨_, rfl, rfl, U⟩;have S := zbt X U;clear U R;rcases Bool.eq_false_or_eq_true (rQQ x.data.toList) with hq | hq
   ·have M : Hid (allQ l = allQ (l.drop (i + 1))) := by unfold Hid; rw [Y.out, hq]; rfl
    rw [hq, show eNm true = 0 from rfl];clear hq Y;go_wp2_with fail;go_roundw
    case rel => exact ⟨i + 1, by go_num, h, M, S⟩
    case measure => simp [RowKit.intOf]; omega
   ·have M : Hid (2 = eNm (allQ l)) := by unfold Hid; rw [Y.out, hq]; rfl
    rw [hq, show eNm false = 2 from rfl];clear hq Y;go_wp2_with fail;go_ret;exact ⟨_, rfl, congrArg (Value.int .i64) M.out, S⟩
  ·have H : Hid (0 = eNm (allQ l)) := by unfold Hid; rw [N.out, List.drop_of_length_le h]; rfl
   clear N;go_wp2_with fail;go_ret;exact ⟨_, rfl, congrArg (Value.int .i64) H.out, X⟩
theorem RdS.fresh (w : World) (xs : List ByteArray) (U : Nat) (cs : Array Value) (Z : cs.toList = xs.map fun x => Value.string x) (X : xs.length <= 1000) (n : Nat) (V : n = xs.length) (g : Nat) (Y : g = w.heap.size) :
 RdS (w.alloc (Obj.cells cs U)) (.slice (some ⟨g, 0, none⟩) n n) xs := by
 subst V Y;refine ⟨some ⟨w.heap.size, 0, none⟩, xs.length, rfl, Nat.le_refl _, Nat.le_trans X (by decide), by simp, fun _ => ⟨w.heap.size, 0, rfl, fun i x hx => ?_⟩⟩;rw [World.cell?_alloc_at _ _ _ _ rfl];rw [<- Z] at hx;simpa using hx
theorem cPa (x y : ByteArray) (hx : x.size < 1000000000) (hy : y.size < 1000000000) (w : World) (X : Good w) :
 Calls Tryz.prog 107 #[.agg #[.string x, .string y]] w (Ret (fun r _ => r = .int .i64 (eNm (allQ [x, y]))) w) := by
 go_enter Tryz.func107, Tryz.ntmps107;go_wp2_with fail;have Z : Below w.heap.size w ((w.alloc (Obj.cells #[Value.string x, Value.string y] 73)).alloc (Obj.cells #[Value.string x, Value.string y] 55)) :=
  ((Below.refl _ _).alloc (Nat.le_refl _) _).alloc (by simp) _
 refine (nay [x, y] (by simp) (by simp; exact ⟨hx, hy⟩) _ _ (RdS.fresh _ _ _ _ rfl (by simp) _ rfl _ (by simp)) ((X.alloc _).alloc _)).mono ?_;rintro e V ⟨_, rfl, rfl, Y⟩;go_wp2_with fail;go_ret;exact ⟨_, rfl, rfl, (zbt Z Y)⟩
theorem cVa (x y z : ByteArray) (hx : x.size < 1000000000) (hy : y.size < 1000000000) (V : z.size < 1000000000) (w : World) (X : Good w) :
 Calls Tryz.prog 111 #[.agg #[.string x, .string y, .string z]] w (Ret (fun r _ => r = .int .i64 (eNm (allQ [x, y, z]))) w) := by
 go_enter Tryz.func111, Tryz.ntmps111;go_wp2_with fail;have Z : Below w.heap.size w ((w.alloc (Obj.cells #[Value.string x, Value.string y, Value.string z] 83)).alloc (Obj.cells #[Value.string x, Value.string y, Value.string z] 55)) :=
  ((Below.refl _ _).alloc (Nat.le_refl _) _).alloc (by simp) _
 refine (nay [x, y, z] (by simp) (by simp; exact ⟨hx, hy, V⟩) _ _ (RdS.fresh _ _ _ _ rfl (by simp) _ rfl _ (by simp)) ((X.alloc _).alloc _)).mono ?_;rintro e U ⟨_, rfl, rfl, Y⟩;go_wp2_with fail;go_ret;exact ⟨_, rfl, rfl, (zbt Z Y)⟩
end Go.Proofs.YtmcbeajdloaliaaGreatDoor
