import Derived.Test.YtmcbeajdloaliaaGreatDoorZS24
/- slices.Equal at texts and at fields slices.EqualFunc at fields klippelaw28.sameField, same. rational.Abs klippelaw28.Make. klippelaw28.fits, flat. slices.Clone at texts The walks over klippelaw12.Orient, turn, corners, inside. mesh.Contains The walks over field.Profile$1, field.Profile. -/
set_option maxHeartbeats 8000000
set_option maxRecDepth 100000
namespace Go.Proofs.YtmcbeajdloaliaaGreatDoor
open Go.RowKit Go.Lib
theorem bdr (a b : ByteArray) : (a = b /\ (a.toList != b.toList) = false) \/ (a ≠ b /\ (a.toList != b.toList) = true) := by
 rcases bse a b with ⟨h, Z⟩ | ⟨h, Z, -⟩
 ·exact .inl ⟨h, by simp [bne, Z]⟩
 ·exact .inr ⟨h, by simp [bne, Z]⟩
theorem lse {α : Type} {l m : List α} (h : l.length = m.length) (Z : ∀ j (Y : j < l.length) (X : j < m.length), l[j] = m[j]) : l = m := List.ext_getElem h Z
theorem lnt {α : Type} {l m : List α} {i : Nat} (Z : i < l.length) (Y : i < m.length) (h : l[i] ≠ m[i]) : l ≠ m := fun e => h (by subst e; rfl)
theorem eSa (v u : Value) (l m : List ByteArray) (w : World) (h : RdS w v l) (V : RdS w u m) :
 Calls Tryz.prog 76 #[v, u] w (Ret (fun r _ => r = .bool (decide (l = m))) w) := by
 obtain ⟨p1, c1, rfl, z, y, I⟩ := h.open;obtain ⟨p2, c2, rfl, K, x, H⟩ := V.open;unfold maxLen at y x;have q := hid I;have p := hid H;obtain ⟨N, X⟩ : ∃ r, r = decide (l = m) := ⟨_, rfl⟩;rw [<- X];have G := hid X;clear I H h V X;by_cases hl : l.length = m.length
 ·have O : ((l.length : Int) != (m.length : Int)) = false := by rw [bne_eq_false_iff_eq]; omega
  have k := hid hl;obtain ⟨n, t⟩ := zex (l.length);have E : Hid (n = l.length) := t;have J : m.length = n := by omega
  rw [J] at O K ⊢;rw [<- t] at O z ⊢;clear hl t J;go_enter Tryz.func76, Tryz.ntmps76;go_wp2_with fail;go_loopw [13] (fun t13 wr => ∃ i : Nat, t13 = .int .i64 i /\ i <= n /\ Hid (∀ j (_ : j < i) (h1 : j < l.length) (V : j < m.length), l[j] = m[j]) /\ Below w.heap.size w wr) (fun t13 _ => n - (RowKit.intOf t13).toNat)
  case atStart => exact ⟨0, rfl, Nat.zero_le _, fun j h => absurd h (by omega), Below.refl _ _⟩
  case round =>
   obtain ⟨i, rfl, hi, o, Z⟩ := hrel;rcases Nat.lt_or_ge i n with h | h
   ·have S : i < l.length := by have := E.out; omega
    have R : i < m.length := by have := E.out; have := k.out; omega
    obtain ⟨b1, o1, rfl, B, M⟩ := q.out (List.ne_nil_of_length_pos (by omega));obtain ⟨b, o2, rfl, A, L⟩ := p.out (List.ne_nil_of_length_pos (by omega));have x1 := zcq Z B (M i S);have x2 := zcq Z A (L i R);have f := hid (bse l[i] m[i]);have C : Hid (l[i] = m[i] -> ∀ j (_ : j < i + 1) (h1 : j < l.length) (V : j < m.length), l[j] = m[j]) := fun he j hj h1 V => by
     rcases Nat.lt_or_ge j i with g | g
     ·exact o.out j g h1 V
     ·obtain rfl : j = i := by omega
      exact he
    have D : Hid (l[i] ≠ m[i] -> false = N) := fun he => by rw [G.out]; exact (decide_eq_false (lnt S R he)).symm
    generalize l[i] = q1 at *;generalize m[i] = q2 at *;have c : (i : Int) < (n : Int) := by omega
    clear M L S R;go_upto_region 6 with fail;rcases f.out with ⟨e, d⟩ | ⟨e, d, a⟩
    ·have U := hid (C.out e)
     clear e;go_quiet (fail);obtain ⟨s, Y⟩ := zex (wr.drewN nq);have Q : Below w.heap.size w s := by rw [Y]; exact Z.trans ((bdN wr nq).mono Z.size)
     rw [<- Y];clear Y x1 x2;go_wp2_with fail;go_roundw
     case rel => exact ⟨i + 1, by go_num, by omega, U, Q⟩
     case measure => simp [RowKit.intOf]; omega
    ·have U := hid (D.out e)
     clear e;go_quiet (fail);obtain ⟨s, Y⟩ := zex (wr.drewN nq);have Q : Below w.heap.size w s := by rw [Y]; exact Z.trans ((bdN wr nq).mono Z.size)
     rw [<- Y];clear Y x1 x2;go_wp2_with fail;go_ret;exact ⟨_, rfl, congrArg Value.bool U.out, Q⟩
   ·obtain rfl : i = n := by omega
    have U : Hid (true = N) := by unfold Hid; rw [G.out]; exact (decide_eq_true (lse k.out (fun j h1 V => o.out j (by have := E.out; omega) h1 V))).symm
    go_wp2_with fail;go_ret;exact ⟨_, rfl, congrArg Value.bool U.out, Z⟩
 ·have O : ((l.length : Int) != (m.length : Int)) = true := by rw [bne_iff_ne]; omega
  have U : Hid (false = N) := by unfold Hid; rw [G.out]; exact (decide_eq_false (fun e => hl (by rw [e]))).symm
  clear G q p;go_enter Tryz.func76, Tryz.ntmps76;go_wp2_with fail;go_ret;exact ⟨_, rfl, congrArg Value.bool U.out, Below.refl _ _⟩
theorem eRa (v u : Value) (l m : List ByteArray) (w : World) (h : RdS w v l) (V : RdS w u m) :
 Calls Tryz.prog 120 #[v, u] w (Ret (fun r _ => r = .bool (decide (l = m))) w) := by
 obtain ⟨p1, c1, rfl, z, y, I⟩ := h.open;obtain ⟨p2, c2, rfl, K, x, H⟩ := V.open;unfold maxLen at y x;have q := hid I;have p := hid H;obtain ⟨N, X⟩ : ∃ r, r = decide (l = m) := ⟨_, rfl⟩;rw [<- X];have G := hid X;clear I H h V X;by_cases hl : l.length = m.length
 ·have O : ((l.length : Int) != (m.length : Int)) = false := by rw [bne_eq_false_iff_eq]; omega
  have k := hid hl;obtain ⟨n, t⟩ := zex (l.length);have E : Hid (n = l.length) := t;have J : m.length = n := by omega
  rw [J] at O K ⊢;rw [<- t] at O z ⊢;clear hl t J;go_enter Tryz.func120, Tryz.ntmps120;go_wp2_with fail;go_loopw [13] (fun t13 wr => ∃ i : Nat, t13 = .int .i64 i /\ i <= n /\ Hid (∀ j (_ : j < i) (h1 : j < l.length) (V : j < m.length), l[j] = m[j]) /\ Below w.heap.size w wr) (fun t13 _ => n - (RowKit.intOf t13).toNat)
  case atStart => exact ⟨0, rfl, Nat.zero_le _, fun j h => absurd h (by omega), Below.refl _ _⟩
  case round =>
   obtain ⟨i, rfl, hi, o, Z⟩ := hrel;rcases Nat.lt_or_ge i n with h | h
   ·have S : i < l.length := by have := E.out; omega
    have R : i < m.length := by have := E.out; have := k.out; omega
    obtain ⟨b1, o1, rfl, B, M⟩ := q.out (List.ne_nil_of_length_pos (by omega));obtain ⟨b, o2, rfl, A, L⟩ := p.out (List.ne_nil_of_length_pos (by omega));have x1 := zcq Z B (M i S);have x2 := zcq Z A (L i R);have f := hid (bse l[i] m[i]);have C : Hid (l[i] = m[i] -> ∀ j (_ : j < i + 1) (h1 : j < l.length) (V : j < m.length), l[j] = m[j]) := fun he j hj h1 V => by
     rcases Nat.lt_or_ge j i with g | g
     ·exact o.out j g h1 V
     ·obtain rfl : j = i := by omega
      exact he
    have D : Hid (l[i] ≠ m[i] -> false = N) := fun he => by rw [G.out]; exact (decide_eq_false (lnt S R he)).symm
    generalize l[i] = q1 at *;generalize m[i] = q2 at *;have c : (i : Int) < (n : Int) := by omega
    clear M L S R;go_upto_region 6 with fail;rcases f.out with ⟨e, d⟩ | ⟨e, d, a⟩
    ·have U := hid (C.out e)
     clear e;go_quiet (fail);obtain ⟨s, Y⟩ := zex (wr.drewN nq);have Q : Below w.heap.size w s := by rw [Y]; exact Z.trans ((bdN wr nq).mono Z.size)
     rw [<- Y];clear Y x1 x2;go_wp2_with fail;go_roundw
     case rel => exact ⟨i + 1, by go_num, by omega, U, Q⟩
     case measure => simp [RowKit.intOf]; omega
    ·have U := hid (D.out e)
     clear e;go_quiet (fail);obtain ⟨s, Y⟩ := zex (wr.drewN nq);have Q : Below w.heap.size w s := by rw [Y]; exact Z.trans ((bdN wr nq).mono Z.size)
     rw [<- Y];clear Y x1 x2;go_wp2_with fail;go_ret;exact ⟨_, rfl, congrArg Value.bool U.out, Q⟩
   ·obtain rfl : i = n := by omega
    have U : Hid (true = N) := by unfold Hid; rw [G.out]; exact (decide_eq_true (lse k.out (fun j h1 V => o.out j (by have := E.out; omega) h1 V))).symm
    go_wp2_with fail;go_ret;exact ⟨_, rfl, congrArg Value.bool U.out, Z⟩
 ·have O : ((l.length : Int) != (m.length : Int)) = true := by rw [bne_iff_ne]; omega
  have U : Hid (false = N) := by unfold Hid; rw [G.out]; exact (decide_eq_false (fun e => hl (by rw [e]))).symm
  clear G q p;go_enter Tryz.func120, Tryz.ntmps120;go_wp2_with fail;go_ret;exact ⟨_, rfl, congrArg Value.bool U.out, Below.refl _ _⟩
theorem fd0 (v u : Value) (l m : List ByteArray) (w : World) (h : RdS w v l) (Y : RdS w u m) :
 Calls Tryz.prog 75 #[v, u] w (Ret (fun r _ => r = .bool (decide (l = m))) w) := by
 have X := hid (eRa v u l m w h Y);generalize decide (l = m) = z at *;clear h Y;go_enter Tryz.func75, Tryz.ntmps75;go_wp2_with fail;refine X.out.mono ?_;rintro e V ⟨_, rfl, rfl, Z⟩;go_wp2_with fail;go_ret;exact ⟨_, rfl, rfl, Z⟩
theorem eFa (v u : Value) (l m : List (List ByteArray)) (w : World) (h : RdTx w v l) (X : RdTx w u m) :
 Calls Tryz.prog 77 #[v, u, .func (.func 75) #[] #[]] w (Ret (fun r _ => r = .bool (decide (l = m))) w) := by
 obtain ⟨p1, c1, rfl, s, q⟩ := h.shape;obtain ⟨p2, c2, rfl, J, p⟩ := X.shape;unfold maxLen at q p;have C := hid h;have B := hid X;obtain ⟨N, Y⟩ : ∃ r, r = decide (l = m) := ⟨_, rfl⟩;rw [<- Y];have D := hid Y;clear h X Y;by_cases hl : l.length = m.length
 ·have O : ((l.length : Int) != (m.length : Int)) = false := by rw [bne_eq_false_iff_eq]; omega
  have g := hid hl;obtain ⟨n, o⟩ := zex (l.length);have z : Hid (n = l.length) := o;have I : m.length = n := by omega
  rw [I] at O J B ⊢;rw [<- o] at O s C ⊢;clear hl o I;go_enter Tryz.func77, Tryz.ntmps77;go_wp2_with fail;go_loopw [17] (fun t17 wr => ∃ i : Nat, t17 = .int .i64 i /\ i <= n /\ Hid (∀ j (_ : j < i) (h1 : j < l.length) (X : j < m.length), l[j] = m[j]) /\ Below w.heap.size w wr) (fun t17 _ => n - (RowKit.intOf t17).toNat)
  case atStart => exact ⟨0, rfl, Nat.zero_le _, fun j h => absurd h (by omega), Below.refl _ _⟩
  case round =>
   obtain ⟨i, rfl, hi, k, Z⟩ := hrel;rcases Nat.lt_or_ge i n with h | h
   ·have R : i < l.length := by have := z.out; omega
    have Q : i < m.length := by have := z.out; have := g.out; omega
    obtain ⟨b1, o1, b, e1, y, L⟩ := C.out.cells (by omega);obtain ⟨b2, o2, a, e2, x, K⟩ := B.out.cells (by omega);injection e1 with e11 e12 e13
    injection e2 with e21 e22 e23
    clear e12 e22;subst e11 e13 e21 e23;obtain ⟨pa, ca, d, H⟩ := L i R;obtain ⟨pb, cb, c, G⟩ := K i Q;have x1 := zcq Z y d;have x2 := zcq Z x c;have M := hid (fd0 _ _ _ _ wr (RdC.below H Z) (RdC.below G Z));have S : Hid (l[i] = m[i] -> ∀ j (_ : j < i + 1) (h1 : j < l.length) (X : j < m.length), l[j] = m[j]) := fun he j hj h1 X => by
     rcases Nat.lt_or_ge j i with f | f
     ·exact k.out j f h1 X
     ·obtain rfl : j = i := by omega
      exact he
    have U : Hid (l[i] ≠ m[i] -> false = N) := fun he => by rw [D.out]; exact (decide_eq_false (lnt R Q he)).symm
    have E : Hid ((decide (l[i] = m[i]) = true -> l[i] = m[i]) /\ (decide (l[i] = m[i]) = false -> l[i] ≠ m[i])) := ⟨of_decide_eq_true, of_decide_eq_false⟩;generalize l[i] = q1 at *;generalize m[i] = q2 at *;generalize decide (q1 = q2) = bq at *;generalize q1.length = n1 at *;generalize q2.length = n2 at *;have h0 : (i : Int) < (n : Int) := by omega
    clear L K R Q H G d c;go_wp2_with fail;refine M.out.mono ?_;rintro e w3 ⟨_, rfl, rfl, t⟩;have V := zbt Z t;cases bq
    ·have A := hid (U.out (E.out.2 rfl))
     clear U E S;go_wp2_with fail;go_ret;exact ⟨_, rfl, congrArg Value.bool A.out, V⟩
    ·have A := hid (S.out (E.out.1 rfl))
     clear U E S;go_wp2_with fail;go_roundw
     case rel => exact ⟨i + 1, by go_num, by omega, A, V⟩
     case measure => simp [RowKit.intOf]; omega
   ·obtain rfl : i = n := by omega
    have M : Hid (true = N) := by unfold Hid; rw [D.out]; exact (decide_eq_true (lse g.out (fun j h1 X => k.out j (by have := z.out; omega) h1 X))).symm
    go_wp2_with fail;go_ret;exact ⟨_, rfl, congrArg Value.bool M.out, Z⟩
 ·have O : ((l.length : Int) != (m.length : Int)) = true := by rw [bne_iff_ne]; omega
  have M : Hid (false = N) := by unfold Hid; rw [D.out]; exact (decide_eq_false (fun e => hl (by rw [e]))).symm
  clear D C B;go_enter Tryz.func77, Tryz.ntmps77;go_wp2_with fail;go_ret;exact ⟨_, rfl, congrArg Value.bool M.out, Below.refl _ _⟩
structure DepR (w : World) (vb vu vs : Value) (b : List ByteArray) (U : List ByteArray) (S : List (List ByteArray)) : Prop where
 base : RdS w vb b
 unit : RdS w vu U
 surf : RdTx w vs S
theorem DepR.below {w w' : World} {vb vu vs : Value} {b U : List ByteArray} {S : List (List ByteArray)} (h : DepR w vb vu vs b U S) (Z : Below w.heap.size w w') : DepR w' vb vu vs b U S :=
 ⟨RdC.below h.base Z, RdC.below h.unit Z, h.surf.below Z⟩
theorem DepR.open {w : World} {vb vu vs : Value} {b U : List ByteArray} {S : List (List ByteArray)} (h : DepR w vb vu vs b U S) : ∃ X Z R Y V cs, vb = .slice X b.length Z /\ vu = .slice R U.length Y /\ vs = .slice V S.length cs := by
 obtain ⟨X, Z, Q, -, -, -⟩ := h.base.open;obtain ⟨R, Y, O, -, -, -⟩ := h.unit.open;obtain ⟨V, cs, N, -, -⟩ := h.surf.shape;exact ⟨X, Z, R, Y, V, cs, Q, O, N⟩
theorem sEa (w : World) (p n o G D E : Value) (b U b' X : List ByteArray) (S Y : List (List ByteArray)) (h : DepR w p n o b U S) (y : DepR w G D E b' X Y) :
 Calls Tryz.prog 37 #[.agg #[p, n, o], .agg #[G, D, E]] w (Ret (fun r _ => r = .bool (decide (b = b' /\ U = X /\ S = Y))) w) := by
 have C := hid h;have Z := hid y;obtain ⟨v, A, s, z, t, cs, rfl, rfl, rfl⟩ := h.open;obtain ⟨J, N, H, L, I, M, rfl, rfl, rfl⟩ := y.open;have m : Hid (∀ w', Below w.heap.size w w' -> _) := fun w' hb => fd0 _ _ _ _ w' (C.out.below hb).base (Z.out.below hb).base;have l : Hid (∀ w', Below w.heap.size w w' -> _) := fun w' hb => eSa _ _ _ _ w' (C.out.below hb).unit (Z.out.below hb).unit;have k : Hid (∀ w', Below w.heap.size w w' -> _) := fun w' hb => eFa _ _ _ _ w' (C.out.below hb).surf (Z.out.below hb).surf;have Q : Hid (decide (b = b' /\ U = X /\ S = Y) = (decide (b = b') && (decide (U = X) && decide (S = Y)))) := by
  unfold Hid;by_cases B : b = b' <;> by_cases h2 : U = X <;> by_cases h3 : S = Y <;> simp [B, h2, h3]
 generalize decide (b = b' /\ U = X /\ S = Y) = res at *;generalize decide (b = b') = r1 at *;generalize decide (U = X) = r2 at *;generalize decide (S = Y) = r3 at *;generalize b.length = lb at *;generalize b'.length = lb' at *;generalize U.length = lu at *;generalize X.length = lu' at *;generalize S.length = ls at *;generalize Y.length = ls' at *;clear h y C Z;go_enter Tryz.func37, Tryz.ntmps37;go_wp2_with fail;obtain ⟨W, K⟩ := zex ((w.alloc (.cells #[.slice v lb A, .slice s lu z, .slice t ls cs] 45)).alloc (.cells #[.slice J lb' N, .slice H lu' L, .slice I ls' M] 45));have q : Below w.heap.size w W := by rw [K]; exact zal2 _ _ _
 have c2 : BoxN W (w.heap.size + 1) 45 [.slice J lb' N, .slice H lu' L, .slice I ls' M] := by rw [K]; exact BoxN.new _ _ _ _ (by simp)
 have c1 : BoxN W w.heap.size 45 [.slice v lb A, .slice s lu z, .slice t ls cs] := by
  rw [K];have B := (BoxN.new w #[.slice v lb A, .slice s lu z, .slice t ls cs] 45 _ rfl);exact B.below (zal _ _) B.lt
 have a0 := c1.cell 0 rfl;have i := c2.cell 0 rfl;rw [<- K];clear K;refine zR (m.out W q) fun w1 hb1 => ?_;have V := zbt q hb1;replace c1 := c1.bl hb1;replace c2 := c2.bl hb1;clear a0 i;have j := c1.cell 1 rfl;have b1 := c2.cell 1 rfl;cases r1
 ·have O : Hid (res = false) := Q.out
  clear Q;go_wp2_with fail;go_ret;exact ⟨_, rfl, congrArg Value.bool O.out.symm, V⟩
 ·go_wp2_with fail
  refine zR (l.out w1 V) fun w2 hb2 => ?_;have R := zbt V hb2;replace c1 := c1.bl hb2;replace c2 := c2.bl hb2;clear j b1;have g := c1.cell 2 rfl;have f := c2.cell 2 rfl;cases r2
  ·have O : Hid (res = false) := Q.out
   clear Q;go_wp2_with fail;go_ret;exact ⟨_, rfl, congrArg Value.bool O.out.symm, R⟩
  ·go_wp2_with fail
   refine zR (k.out w2 R) fun w3 hb3 => ?_;have x := zbt R hb3;have O : Hid (res = r3) := by unfold Hid; rw [Q.out]; simp
   clear Q;go_wp2_with fail;go_ret;exact ⟨_, rfl, congrArg Value.bool O.out.symm, x⟩
theorem sFa (v u : Value) (l m : List ByteArray) (w : World) (h : RdS w v l) (V : RdS w u m) :
 Calls Tryz.prog 19 #[v, u] w (Ret (fun r _ => r = .bool (decide (l = m))) w) := by
 obtain ⟨p1, c1, rfl, z, y, I⟩ := h.open;obtain ⟨p2, c2, rfl, K, x, H⟩ := V.open;unfold maxLen at y x;have q := hid I;have p := hid H;obtain ⟨N, X⟩ : ∃ r, r = decide (l = m) := ⟨_, rfl⟩;rw [<- X];have G := hid X;clear I H h V X;by_cases hl : l.length = m.length
 ·have O : ((l.length : Int) != (m.length : Int)) = false := by rw [bne_eq_false_iff_eq]; omega
  have k := hid hl;obtain ⟨n, t⟩ := zex (l.length);have E : Hid (n = l.length) := t;have J : m.length = n := by omega
  rw [J] at O K ⊢;rw [<- t] at O z ⊢;clear hl t J;go_enter Tryz.func19, Tryz.ntmps19;go_wp2_with fail;go_loopw [5] (fun t5 wr => ∃ i : Nat, t5 = .int .i64 i /\ i <= n /\ Hid (∀ j (_ : j < i) (h1 : j < l.length) (V : j < m.length), l[j] = m[j]) /\ Below w.heap.size w wr) (fun t5 _ => n - (RowKit.intOf t5).toNat)
  case atStart => exact ⟨0, rfl, Nat.zero_le _, fun j h => absurd h (by omega), Below.refl _ _⟩
  case round =>
   obtain ⟨i, rfl, hi, o, Z⟩ := hrel;rcases Nat.lt_or_ge i n with h | h
   ·have S : i < l.length := by have := E.out; omega
    have R : i < m.length := by have := E.out; have := k.out; omega
    obtain ⟨b1, o1, rfl, B, M⟩ := q.out (List.ne_nil_of_length_pos (by omega));obtain ⟨b, o2, rfl, A, L⟩ := p.out (List.ne_nil_of_length_pos (by omega));have x1 := zcq Z B (M i S);have x2 := zcq Z A (L i R);have f := hid (bse l[i] m[i]);have C : Hid (l[i] = m[i] -> ∀ j (_ : j < i + 1) (h1 : j < l.length) (V : j < m.length), l[j] = m[j]) := fun he j hj h1 V => by
     rcases Nat.lt_or_ge j i with g | g
     ·exact o.out j g h1 V
     ·obtain rfl : j = i := by omega
      exact he
    have D : Hid (l[i] ≠ m[i] -> false = N) := fun he => by rw [G.out]; exact (decide_eq_false (lnt S R he)).symm
    generalize l[i] = q1 at *;generalize m[i] = q2 at *;have c : (i : Int) < (n : Int) := by omega
    clear M L S R;go_upto_region 6 with fail;rcases f.out with ⟨e, d⟩ | ⟨e, d, a⟩
    ·have U := hid (C.out e)
     clear e;go_quiet (fail);obtain ⟨s, Y⟩ := zex (wr.drewN nq);have Q : Below w.heap.size w s := by rw [Y]; exact Z.trans ((bdN wr nq).mono Z.size)
     rw [<- Y];clear Y x1 x2;go_wp2_with fail;go_roundw
     case rel => exact ⟨i + 1, by go_num, by omega, U, Q⟩
     case measure => simp [RowKit.intOf]; omega
    ·have U := hid (D.out e)
     clear e;go_quiet (fail);obtain ⟨s, Y⟩ := zex (wr.drewN nq);have Q : Below w.heap.size w s := by rw [Y]; exact Z.trans ((bdN wr nq).mono Z.size)
     rw [<- Y];clear Y x1 x2;go_wp2_with fail;go_ret;exact ⟨_, rfl, congrArg Value.bool U.out, Q⟩
   ·obtain rfl : i = n := by omega
    have U : Hid (true = N) := by unfold Hid; rw [G.out]; exact (decide_eq_true (lse k.out (fun j h1 V => o.out j (by have := E.out; omega) h1 V))).symm
    go_wp2_with fail;go_ret;exact ⟨_, rfl, congrArg Value.bool U.out, Z⟩
 ·have O : ((l.length : Int) != (m.length : Int)) = true := by rw [bne_iff_ne]; omega
  have U : Hid (false = N) := by unfold Hid; rw [G.out]; exact (decide_eq_false (fun e => hl (by rw [e]))).symm
  clear G q p;go_enter Tryz.func19, Tryz.ntmps19;go_wp2_with fail;go_ret;exact ⟨_, rfl, congrArg Value.bool U.out, Below.refl _ _⟩
theorem re0 (q : Rat) (S : (RS q).size <= 100000) (w : World) :
 Calls Tryz.prog 78 #[.string (RS q)] w (Ret (fun v _ => v = .string (RS q.abs)) w) := by
 have Y := Rps q;have Z := Rhd q Y;obtain ⟨s, U⟩ := zex (RS q);have R := hid U;simp only [<- U] at Y Z S ⊢;obtain ⟨c0, V⟩ : ∃ c0 : Nat, s[0].toNat = c0 := ⟨_, rfl⟩;rw [V] at Z;clear U;rcases Int.lt_or_le q.num 0 with h | h
 ·have Q : ((c0 : Int) == 45) = true := by rw [beq_iff_eq]; have := Z.2 h; omega
  have X : Hid (s.extract 1 s.size = RS q.abs) := by
   unfold Hid;have e : q.abs = -q := by unfold Rat.abs; rw [if_neg (Rat.not_le.2 (num_lt_zero_iff.1 h))]
   rw [e];apply bet;rw [bdp, Blt, R.out, Rlt, Rlt, Rng q h]
  clear Z h;go_enter Tryz.func78, Tryz.ntmps78;go_wp2_with fail;go_ret;exact ⟨_, rfl, congrArg Value.string X.out, Below.refl _ _⟩
 ·have Q : ((c0 : Int) == 45) = false := by rw [beq_eq_false_iff_ne]; intro e; have := Z.1 (by omega); omega
  have X : Hid (s = RS q.abs) := by
   unfold Hid;have e : q.abs = q := by unfold Rat.abs; rw [if_pos (Rat.num_nonneg.1 h)]
   rw [e, R.out]
  clear Z h;go_enter Tryz.func78, Tryz.ntmps78;go_wp2_with fail;go_ret;exact ⟨_, rfl, congrArg Value.string X.out, Below.refl _ _⟩
theorem pb0 (w : World) (v : Value) (F : List Rat) (h : RdQ w v F) (hl : F.length <= 400) (t : ∀ q ∈ F, (RS q).size <= 100000) :
 Calls Tryz.prog 38 #[v] w (Ret (fun r w' => FldV w' w.heap.size r (F.map Rat.abs)) w) := by
 obtain ⟨i0, Q, B, A, z⟩ := info_parts isr;have I : Hid (∀ i (Q : i < F.length), ∃ b o c, v = .slice (some ⟨b, o, none⟩) F.length c /\ b < w.heap.size /\ w.cell? ⟨b, o + i, none⟩ = some (.string (RS F[i]))) := fun i Q => by
  obtain ⟨p, c, rfl, -, -, hr⟩ := h.open;obtain ⟨b, o, rfl, G, a⟩ := hr (List.ne_nil_of_length_pos (by omega));exact ⟨b, o, c, rfl, G, a i Q⟩
 have J : Hid (∀ i (Q : i < F.length) w, _) := fun i Q w => re0 F[i] (t _ (List.getElem_mem Q)) w;obtain ⟨pf, k, rfl, E, D, -⟩ := h.open;unfold maxLen at D;obtain ⟨n, K⟩ := zex (F.length);have M := hid K;replace I : Hid (∀ i (Q : i < F.length), ∃ b o c, Value.slice pf n k = .slice (some ⟨b, o, none⟩) n c /\ b < w.heap.size /\ w.cell? ⟨b, o + i, none⟩ = some (.string (RS F[i]))) := by rw [K]; exact I
 rw [<- K] at hl E ⊢;clear h t K;go_enter Tryz.func38, Tryz.ntmps38;go_wp2_with fail;obtain ⟨W, L⟩ := zex (w.alloc (.cells #[] 55));have d : Below w.heap.size w W := by rw [L]; exact zal _ _
 have f : W.ownsRow w.heap.size 55 1 (.slice (some ⟨w.heap.size, 0, none⟩) 0 0) 0 ([] : List Value) := by
  rw [L];have := World.ownsRow_lit (base := w.heap.size) (e := 55) (size := 1) w #[] 0 (by simp) (by decide) rfl;simpa using this
 rw [<- L];clear L;go_loopw [3, 4] (fun t3 t4 wr => ∃ (i : Nat), t4 = .int .i64 i /\ i <= n /\ wr.ownsRow w.heap.size 55 1 t3 i (cFd ((F.take i).map Rat.abs)) /\ Below w.heap.size w wr) (fun _ t4 _ => n - (RowKit.intOf t4).toNat)
 case atStart => exact ⟨0, rfl, Nat.zero_le _, f, d⟩
 case round =>
  obtain ⟨i, rfl, h2, Y, S⟩ := hrel;obtain ⟨p3, l, rfl⟩ := oRs Y;rcases Nat.lt_or_ge i n with h | h
  ·obtain ⟨b, o, c, g, G, X⟩ := I.out i (by have := M.out; omega)
   injection g with e11 e12 e13
   clear e12;subst e11 e13;have O : i < F.length := by have := M.out; omega
   have xi := zcq S G X;have H : Hid ((F.take (i + 1)).map Rat.abs = (F.take i).map Rat.abs ++ [F[i].abs]) := by
    unfold Hid;rw [List.take_succ_eq_append_getElem O, List.map_append];rfl
   have m := hid (J.out i O);generalize F[i].abs = qa at *;generalize F[i] = q at *;have x : (i : Int) < (n : Int) := by omega
   clear X O;go_wp2_with fail;refine zR (m.out wr) fun w2 hb2 => ?_;have V := WRA Y hb2;have R : Below w.heap.size w w2 := zbt S hb2;have s := R.size;clear hb2 Y S xi
   go_wp2_with (at_builtin; refine wpList_append_own _ rfl _ _ 33 rfl w.heap.size 55 i0 (.string ⟨#[]⟩) 1 16 Tryz.underlying33 Q B A z rfl (by decide) _ _ _ rfl (V.alloc _) ⟨w2.heap.size, 0, none⟩ 1 1 [.string (RS qa)] rfl rfl (cos _ _ _) (ocs _) (by unfold maxLen; omega) (by omega) (by simp; omega) ?_
                intro v2 w3 U Z _;have N : Below w.heap.size w w3 := (R.alloc (by omega) _).grown Z (by simp; omega) (fun j hj => by have := (V.lt j hj).1; omega);clear Z)
   go_roundw
   case rel => exact ⟨i + 1, by simp, by omega, by rw [H.out]; unfold cFd at U ⊢; rw [List.map_append]; exact U, N⟩
   case measure =>
    show n - ((i : Int) + 1).toNat < n - (i : Int).toNat;omega
  ·obtain rfl : i = n := by omega
   have C : FldV wr w.heap.size (.slice p3 i l) (F.map Rat.abs) := by
    unfold FldV;have e : (F.map Rat.abs).length = i := by rw [List.length_map, <- M.out]
    rw [e];have y := Y;rw [List.take_of_length_le (by have := M.out; omega)] at y;exact y
   go_wp2_with fail;go_ret;exact ⟨_, rfl, C, S⟩
abbrev StepQ := List Int × Bool
def cSt (H : List StepQ) : List Value := H.flatMap fun h => h.1.map (fun x => Value.int .i8 x) ++ [Value.bool h.2]
def stepF (n : Nat) (h : StepQ) : List Rat := (hFF h.1 h.2 n).map Rat.abs
def topTo (n : Nat) (B : List Rat) (H : List StepQ) : Nat -> List Rat
 | 0 => B
 | i + 1 => List.zipWith (·+ ·) (topTo n B H i) (stepF n (H[i]?.getD ([], false)))
def sTo (n : Nat) (B : List Rat) (H : List StepQ) (m : Nat) : List (List Rat) := (List.range m).map fun i => topTo n B H (i + 1)
theorem sTn (n : Nat) (B : List Rat) (H : List StepQ) (m : Nat) : sTo n B H (m + 1) = sTo n B H m ++ [topTo n B H (m + 1)] := by
 unfold sTo; rw [List.range_succ, List.map_append]; rfl
theorem sTl (n : Nat) (B : List Rat) (H : List StepQ) (m : Nat) : (sTo n B H m).length = m := by unfold sTo; simp
def nameU (i : Nat) : ByteArray := ⟨#[117, (49 + i).toUInt8]⟩
def uTo (m : Nat) : List ByteArray := (List.range m).map nameU
theorem uTn (m : Nat) : uTo (m + 1) = uTo m ++ [nameU m] := by unfold uTo; rw [List.range_succ, List.map_append]; rfl
theorem sFl (n : Nat) (h : StepQ) : (stepF n h).length = n := by unfold stepF; rw [List.length_map, he0]
theorem tTl (n : Nat) (B : List Rat) (H : List StepQ) (Z : B.length = n) : ∀ i, (topTo n B H i).length = n
 | 0 => Z
 | i + 1 => by unfold topTo; rw [List.length_zipWith, tTl n B H Z i, sFl]; simp
def RdSt (w : World) (v : Value) (H : List StepQ) : Prop := RdC 7 w v H.length (cSt H) /\ ∀ h ∈ H, h.1.length = 6 /\ ∀ x ∈ h.1, -128 <= x /\ x <= 127
theorem RdSt.below {w w' : World} {v : Value} {H : List StepQ} (h : RdSt w v H) (Z : Below w.heap.size w w') : RdSt w' v H := ⟨RdC.below h.1 Z, h.2⟩
theorem cSg : ∀ (H : List StepQ) (_ : ∀ h ∈ H, h.1.length = 6) (i j : Nat) (Z : i < H.length) (_ : j < 7), (cSt H)[i * 7 + j]? = (H[i].1.map (fun x => Value.int .i8 x) ++ [Value.bool H[i].2])[j]?
 | [], _, i, j, Z, _ => by simp at Z
 | h :: H, hl, 0, j, Z, hj => by
   have X := hl h (by simp);unfold cSt;rw [List.flatMap_cons, List.getElem?_append_left (by simp; omega)];simp
 | h :: H, hl, i + 1, j, Z, hj => by
   have X := hl h (by simp);have Y := cSg H (fun x hx => hl x (by simp [hx])) i j (by simp at Z; omega) hj;unfold cSt at Y ⊢;rw [List.flatMap_cons, List.getElem?_append_right (by simp; omega), List.getElem_cons_succ];rw [<- Y];congr 1;simp;omega
theorem lsx {l : List Int} (h : l.length = 6) : ∃ a b c d e f, l = [a, b, c, d, e, f] := by
 match l, h with
 | [a, b, c, d, e, f], _ => exact ⟨a, b, c, d, e, f, rfl⟩
theorem RdSt.cells {w : World} {v : Value} {H : List StepQ} (h : RdSt w v H) {i : Nat} (Q : i < H.length) : ∃ (b o c : Nat) (x0 x1 x2 Y X V : Int) (U : Bool), v = .slice (some ⟨b, o, none⟩) H.length c /\ b < w.heap.size /\ H[i] = ([x0, x1, x2, Y, X, V], U) /\ (∀ x ∈ [x0, x1, x2, Y, X, V], -128 <= x /\ x <= 127) /\
 w.cell? ⟨b, o + i * 7, none⟩ = some (.int .i8 x0) /\ w.cell? ⟨b, o + i * 7 + 1, none⟩ = some (.int .i8 x1) /\ w.cell? ⟨b, o + i * 7 + 2, none⟩ = some (.int .i8 x2) /\ w.cell? ⟨b, o + i * 7 + 3, none⟩ = some (.int .i8 Y) /\ w.cell? ⟨b, o + i * 7 + 4, none⟩ = some (.int .i8 X) /\ w.cell? ⟨b, o + i * 7 + 5, none⟩ = some (.int .i8 V) /\ w.cell? ⟨b, o + i * 7 + 6, none⟩ = some (.bool U) := by
 obtain ⟨⟨p, c, rfl, K, J, I, O⟩, S⟩ := h;obtain ⟨b, o, rfl, L⟩ := O (List.ne_nil_of_length_pos (by omega));obtain ⟨N, M⟩ := S H[i] (List.getElem_mem Q);obtain ⟨x0, x1, x2, Y, X, V, hx⟩ := lsx N;have Z : ∀ j u, j < 7 -> (([x0, x1, x2, Y, X, V].map (fun x => Value.int .i8 x) ++ [Value.bool H[i].2])[j]? = some u) -> w.cell? ⟨b, o + i * 7 + j, none⟩ = some u := fun j u hj hu => by
  have R := cSg H (fun h hh => (S h hh).1) i j Q hj;rw [hx] at R;have := L (i * 7 + j) u (by rw [R]; exact hu);rw [<- Nat.add_assoc] at this;exact this
 refine ⟨b, o, c, x0, x1, x2, Y, X, V, H[i].2, rfl, World.block_lt_of_cell? w _ (Z 0 _ (by omega) rfl), Prod.ext hx rfl, ?_, Z 0 _ (by omega) rfl, Z 1 _ (by omega) rfl, Z 2 _ (by omega) rfl, Z 3 _ (by omega) rfl, Z 4 _ (by omega) rfl, Z 5 _ (by omega) rfl, Z 6 _ (by omega) rfl⟩;rw [<- hx];exact M
theorem Fr.abs {d B : Nat} {q : Rat} (h : Fr d B q) : Fr d B q.abs := by
 unfold Rat.abs;split
 ·exact h
 ·obtain ⟨n, Z, Y⟩ := h
  exact ⟨-n, by rw [Rat.neg_mul, Z]; simp, by omega⟩
theorem fsp (n : Nat) (h : StepQ) : ∀ q ∈ stepF n h, Fr 2 38 q := fun q hq => by
 unfold stepF at hq;obtain ⟨x, hx, rfl⟩ := List.mem_map.1 hq;exact (fht _ _ _ x hx).abs
theorem ftp (n : Nat) (B : List Rat) (H : List StepQ) (Z : ∀ q ∈ B, Fr 2 38 q) : ∀ i, ∀ q ∈ topTo n B H i, Fr 2 (38 * (i + 1)) q
 | 0, q, hq => Z q hq
 | i + 1, q, hq => by
   unfold topTo at hq;obtain ⟨j, Y, rfl⟩ := List.getElem_of_mem hq;rw [List.getElem_zipWith];rw [List.length_zipWith] at Y;exact ((ftp n B H Z i _ (List.getElem_mem (by omega))).add (fsp n _ _ (List.getElem_mem (by omega)))).mono (by omega)
theorem s3o {q : Rat} (h : Fr 2 200 q) : Sz 3 q := by
 obtain ⟨n, Z, Y⟩ := h;exact sod (n := 2) (m := n) (by decide) (by omega) (by decide) (by rw [<- Z]; rfl)
theorem oo2 (w : World) (base t : Nat) (v : Value) (Z : base <= w.heap.size) : (w.alloc (.cells #[v] t)).ownsRow base t 1 (.slice (some ⟨w.heap.size, 0, none⟩) 1 1) 1 [v] := by
 refine ⟨by simp, .inr ⟨w.heap.size, 1, #[v], rfl, Z, ?_, Nat.le_refl _, by unfold maxLen; omega, by simp, by simp⟩⟩;exact BoxN.new w #[v] t w.heap.size rfl
theorem bKf {w : World} {b c t i : Nat} {l : List Value} {v : Value} (h : BoxN w b t l) (Z : b ≠ c) : BoxN (w.setCell ⟨c, i, none⟩ v) b t l :=
 (Below.heap_setCell _ _ _ b (fun e => Z e)).trans h
theorem RdC.set5m {sz : Nat} {w : World} {b1 b2 t1 t2 n : Nat} {v : Value} {cs : List Value} (U : BoxN w b1 t1 [.slice none 0 0, .slice none 0 0]) (J : BoxN w b2 t2 [.slice none 0 0, .slice none 0 0, .slice none 0 0]) (Y : b2 ≠ b1) (h : RdC sz w v n cs) (Z : ∀ y ∈ cs, y ≠ .slice none 0 0) (x0 x1 X V Q : Value) :
 RdC sz (((((w.setCell ⟨b1, 0, none⟩ x0).setCell ⟨b1, 1, none⟩ x1).setCell ⟨b2, 0, none⟩ X).setCell ⟨b2, 1, none⟩ V).setCell ⟨b2, 2, none⟩ Q).drew v n cs := by
 have O := RdC.set_other h (U.cell 0 rfl) Z (x := x0);have H := U.set 0 x0;have N := RdC.set_other O (H.cell 1 rfl) Z (x := x1);have S := bKf (i := 1) (v := x1) (bKf (i := 0) (v := x0) J Y) Y;have M := RdC.set_other N (S.cell 0 rfl) Z (x := X);have R := S.set 0 X;have L := RdC.set_other M (R.cell 1 rfl) Z (x := V);have I := R.set 1 V;have K := RdC.set_other L (I.cell 2 rfl) Z (x := Q);exact K.drewN 1
theorem ik0 : (Tryz.prog.info? 9).map (fun i => (i.zero, i.size, i.bytes)) = some (some (.string ⟨#[]⟩), 1, 16) := by kernel_rfl
theorem iFd : (Tryz.prog.info? 33).map (fun i => (i.zero, i.size, i.bytes)) = some (some (.slice none 0 0), 1, 24) := by kernel_rfl
theorem m2a (w : World) (kz s0 s1 : Int) (I : Bool) (k : Nat) (hk : kz.tmod 8 = (k : Int)) (xa : 0 <= kz) (yg : kz <= 255) (xc : -128 <= s0 /\ s0 <= 127) (zy : -128 <= s1 /\ s1 <= 127) (a0 a1 a2 a3 a4 a5 : Int) (ah : Bool) (ha : ∀ x ∈ [a0, a1, a2, a3, a4, a5], -128 <= x /\ x <= 127) (vh : Value) (H : List StepQ) (hH : RdSt w vh H) (yT : H.length <= 3) (P : List PtQ) (hP : P = sb0 k s0 s1 I) (B : List Rat) (hB : B = hFF [a0, a1, a2, a3, a4, a5] ah P.length) (hg : Good w) :
 Calls Tryz.prog 9 #[.agg #[.int .u8 kz, .int .i8 s0, .int .i8 s1, .bool I, .int .i8 a0, .int .i8 a1, .int .i8 a2, .int .i8 a3, .int .i8 a4, .int .i8 a5, .bool ah, vh]] w (Ret (fun r w' => ∃ vp vt vb vu vs, r = .tuple #[.agg #[vp, vt], .agg #[vb, vu, vs]] /\ RdP w' vp (strP P) /\ RdT w' vt (sTT k) /\ RdQ w' vb B /\ RdS w' vu (uTo (H.length + 1)) /\ FlsV 33 w' w.heap.size vs (sTo P.length B H H.length)) w) := by
 have y8 : P.length <= 6 := by rw [hP, sd0]; exact sf0 k
 have zI : Hid (∀ w, Good w -> Calls Tryz.prog 35 #[.agg #[.int .u8 kz, .int .i8 s0, .int .i8 s1, .bool I]] w (Ret (fun r w' => ∃ vp vt, r = .agg #[vp, vt] /\ RdP w' vp (strP P) /\ RdT w' vt (sTT k)) w)) := fun w hg => by rw [hP]; exact md0 w kz s0 s1 I k hk xa yg xc zy hg
 have yD : Hid (∀ (w : World) (pp : Option Addr) (g : Nat) (vt : Value), Good w -> Calls Tryz.prog 10 #[.agg #[.slice pp P.length g, vt], .agg #[.int .i8 a0, .int .i8 a1, .int .i8 a2, .int .i8 a3, .int .i8 a4, .int .i8 a5, .bool ah]] w (Ret (fun r w' => RdQ w' r B /\ FreshV w.heap.size r) w)) := fun w pp g vt hg => by rw [hB]; exact m1a w pp P.length g vt a0 a1 a2 a3 a4 a5 ah ha y8 hg
 have yA : Hid (∀ q ∈ B, Fr 2 38 q) := by unfold Hid; rw [hB]; exact fht _ _ _
 have zn : Hid (B.length = P.length) := by unfold Hid; rw [hB, he0]
 have HH := hid hH;obtain ⟨ph, ch, rfl, x6, x7, -⟩ := hH.1;unfold maxLen at x7;have HP := hid hP;clear hH hP hB ha hk;obtain ⟨n, hn⟩ := zex (H.length);have HN := hid hn;rw [<- hn] at x6 yT ⊢;clear hn;obtain ⟨i0, hi, xm, xn, xo⟩ := info_parts isr;go_enter Tryz.func9, Tryz.ntmps9;go_upto_region 1 with fail;obtain ⟨W, hW⟩ := zex (((w.alloc (.cells #[.int .u8 kz, .int .i8 s0, .int .i8 s1, .bool I, .int .i8 a0, .int .i8 a1, .int .i8 a2, .int .i8 a3, .int .i8 a4, .int .i8 a5, .bool ah, .slice ph n ch] 31)).alloc (.cells #[.slice none 0 0, .slice none 0 0] 41)).alloc (.cells #[.slice none 0 0, .slice none 0 0, .slice none 0 0] 45));have hB : Below w.heap.size w W := by rw [hW]; exact (((Below.refl _ _).alloc (Nat.le_refl _) _).alloc (by simp) _).alloc (by simp; omega) _
 have bx : BoxN W w.heap.size 31 [.int .u8 kz, .int .i8 s0, .int .i8 s1, .bool I, .int .i8 a0, .int .i8 a1, .int .i8 a2, .int .i8 a3, .int .i8 a4, .int .i8 a5, .bool ah, .slice ph n ch] := by
  rw [hW];have h1 := BoxN.new w #[.int .u8 kz, .int .i8 s0, .int .i8 s1, .bool I, .int .i8 a0, .int .i8 a1, .int .i8 a2, .int .i8 a3, .int .i8 a4, .int .i8 a5, .bool ah, .slice ph n ch] 31 _ rfl;exact (h1.below ((Below.refl _ _).alloc (Nat.le_refl _) _) h1.lt).below ((Below.refl _ _).alloc (Nat.le_refl _) _) (by simp; omega)
 have bm : BoxN W (w.heap.size + 1) 41 [.slice none 0 0, .slice none 0 0] := by
  rw [hW];have h1 := BoxN.new (w.alloc (.cells #[.int .u8 kz, .int .i8 s0, .int .i8 s1, .bool I, .int .i8 a0, .int .i8 a1, .int .i8 a2, .int .i8 a3, .int .i8 a4, .int .i8 a5, .bool ah, .slice ph n ch] 31)) #[.slice none 0 0, .slice none 0 0] 41 (w.heap.size + 1) (by simp);exact h1.below (zal _ _) h1.lt
 have bd : BoxN W (w.heap.size + 2) 45 [.slice none 0 0, .slice none 0 0, .slice none 0 0] := by rw [hW]; exact BoxN.new _ _ _ _ (by simp)
 have xH : W.heap.size = w.heap.size + 3 := by rw [hW]; simp
 rw [<- hW];clear hW;obtain ⟨k0, k1, k2, k3⟩ := zk4 bx;go_wp2_with fail;refine (zI.out W (hg.below hB)).mono ?_;rintro e o2 ⟨_, rfl, ⟨vp, vt, rfl, hp, ht⟩, hE⟩;have yR := zbt hB hE;replace bx := bx.bl hE;replace bm := bm.bl hE;replace bd := bd.bl hE;have xA := bd.lt;obtain ⟨pp, g, rfl, -, -, -⟩ := hp.open;obtain ⟨pt, ct, rfl, -, -, -⟩ := ht.open;rw [sPl] at *;clear k0 k1 k2 k3 zI;go_upto_region 2 with fail;obtain ⟨o3, z1⟩ : ∃ W, W = o2.alloc (.cells #[.slice pp P.length g, .slice pt (sTT k).length ct] 41) := ⟨_, rfl⟩;have h7 : Below o2.heap.size o2 o3 := by rw [z1]; exact zal _ _
 have b5 : BoxN o3 o2.heap.size 41 [.slice pp P.length g, .slice pt (sTT k).length ct] := by rw [z1]; exact BoxN.new _ _ _ _ rfl
 have zV := zbt yR h7;replace bx := bx.bl h7;replace bm := bm.bl h7;replace bd := bd.bl h7;have zx := RdC.below hp h7;have zz := RdC.below ht h7;rw [<- z1];clear z1 hp ht h7 hE;obtain ⟨m0, m1⟩ := zk2 b5;have k4 := bx.cell 4 rfl;have k5 := bx.cell 5 rfl;have k6 := bx.cell 6 rfl;have k7 := bx.cell 7 rfl;have k8 := bx.cell 8 rfl;have k9 := bx.cell 9 rfl;have xr := bx.cell 10 rfl;go_wp2_with fail;refine (yD.out o3 _ _ _ (hg.below zV)).mono ?_;rintro e U ⟨_, rfl, ⟨yn, -⟩, f⟩;have hT := zbt zV f;replace bx := bx.bl f;replace bm := bm.bl f;replace bd := bd.bl f;replace b5 := b5.bl f;replace zx := RdC.below zx f;replace zz := RdC.below zz f;obtain ⟨pb, cb, rfl, -, -, -⟩ := yn.open;rw [zn.out];clear m0 m1 k4 k5 k6 k7 k8 k9 xr f;go_upto_region 3 with fail;obtain ⟨V, hV⟩ := zex ((U.alloc (.cells #[.string ⟨#[117, 49]⟩] 9)).alloc (.cells #[.slice pb P.length cb, .slice (some ⟨U.heap.size, 0, none⟩) 1 1, .slice none 0 0] 45));have zq : Below U.heap.size U V := by rw [hV]; exact zal2 _ _ _
 have yx : V.ownsRow U.heap.size 9 1 (.slice (some ⟨U.heap.size, 0, none⟩) 1 1) 1 ((uTo 1).map fun x => Value.string x) := by
  rw [hV];exact WRA (oo2 U U.heap.size 9 (.string ⟨#[117, 49]⟩) (Nat.le_refl _)) ((Below.refl _ _).alloc (Nat.le_refl _) _)
 have bD : BoxN V (U.heap.size + 1) 45 [.slice pb P.length cb, .slice (some ⟨U.heap.size, 0, none⟩) 1 1, .slice none 0 0] := by rw [hV]; exact BoxN.new _ _ _ _ (by simp)
 have xG : V.heap.size = U.heap.size + 2 := by rw [hV]; simp
 rw [<- hV];clear hV;have xF := zbt hT zq;have e0 := bD.cell 0 rfl;have zG := hid bx;have zF := hid b5;have zM : Hid (RdQ U (.slice pb P.length cb) B) := by unfold Hid; rw [<- zn.out]; exact yn
 have zS := hid (tTl P.length B H zn.out);go_wp2_with fail;go_loopw [6, 7] (fun t6 t7 wr => ∃ (i : Nat) (zD : Option Addr) (c6 : Nat) (vu vs : Value), t7 = .int .i64 i /\ i <= n /\ t6 = .slice zD P.length c6 /\ RdQ wr t6 (topTo P.length B H i) /\ wr.ownsRow U.heap.size 9 1 vu (i + 1) ((uTo (i + 1)).map fun x => Value.string x) /\ FlsV 33 wr U.heap.size vs (sTo P.length B H i) /\ BoxN wr (U.heap.size + 1) 45 [.slice pb P.length cb, vu, vs] /\ Below U.heap.size U wr /\ V.heap.size <= wr.heap.size) (fun _ t7 _ => n - (RowKit.intOf t7).toNat)
 case atStart => exact ⟨0, _, _, _, _, rfl, Nat.zero_le _, rfl, by exact RdC.below zM.out zq, yx, FlsV.nil _ _ _, bD, zq, Nat.le_refl _⟩
 case round =>
  obtain ⟨i, zD, c6, vu, vs, rfl, xK, rfl, yl, hO, z2, zt, z, xU⟩ := hrel;obtain ⟨pu, cu, rfl⟩ := oRs hO;obtain ⟨ps, cs, rfl⟩ := z2.shape;have A := zbt hT z;have zo := zG.out.below z zG.out.lt;have c5 := zF.out.below z zF.out.lt;have zC := zo.cell 11 rfl;obtain ⟨m0, m1⟩ := zk2 c5;rcases Nat.lt_or_ge i n with h | h
  ·have xL : (i : Int) < (n : Int) := by omega
   have xJ : (i : Int) < 3 := by omega
   have yh : i < H.length := by have := HN.out; omega
   obtain ⟨bh, oh, xD, x0, x1, x2, x3, x4, x5, hf, ev, d, y7, yb, y0, y1, y2, y3, y4, y5, y6⟩ := HH.out.cells yh;rw [<- HN.out] at ev;injection ev with ev1 zp ev3
   clear zp;subst ev1 ev3;replace y0 := (zcq A d y0 :);replace y1 := (zcq A d y1 :);replace y2 := (zcq A d y2 :);replace y3 := (zcq A d y3 :);replace y4 := (zcq A d y4 :);replace y5 := (zcq A d y5 :);replace y6 := (zcq A d y6 :);have zJ := hid fun w hg => m1a w pp P.length g (.slice pt (sTT k).length ct) x0 x1 x2 x3 x4 x5 hf yb y8 hg;have zL : Hid (∀ (w : World) (v : Value), RdQ w v (hFF [x0, x1, x2, x3, x4, x5] hf P.length) -> _) := fun w v hr => pb0 w v _ hr (by rw [he0]; omega) (fun q hq => Nat.le_trans (((hSz [x0, x1, x2, x3, x4, x5] hf P.length) q hq).size (by omega)) (by omega))
   have zQ : Hid ((hFF [x0, x1, x2, x3, x4, x5] hf P.length).map Rat.abs = stepF P.length (H[i]?.getD ([], false))) := by unfold Hid stepF; rw [List.getElem?_eq_getElem yh, y7]; rfl
   have zv : Good wr.drew := (hg.below A).drewN 1;have yg := zo.lt;have xO := c5.lt;have xP : bh < wr.heap.size := Nat.lt_of_lt_of_le d A.size;clear y7 yb;go_upto_region 7 with fail;go_region_held3 (fun w' => w'.cell? ⟨o2.heap.size, 0, none⟩ = some (.slice pp P.length g) /\ w'.cell? ⟨o2.heap.size, 1, none⟩ = some (.slice pt (sTT k).length ct) /\ w'.cell? ⟨w.heap.size, 11, none⟩ = some (.slice (some ⟨bh, oh, none⟩) n ch) /\ w'.cell? ⟨bh, oh + i * 7, none⟩ = some (.int .i8 x0) /\ w'.cell? ⟨bh, oh + i * 7 + 1, none⟩ = some (.int .i8 x1) /\ w'.cell? ⟨bh, oh + i * 7 + 2, none⟩ = some (.int .i8 x2) /\ w'.cell? ⟨bh, oh + i * 7 + 3, none⟩ = some (.int .i8 x3) /\ w'.cell? ⟨bh, oh + i * 7 + 4, none⟩ = some (.int .i8 x4) /\ w'.cell? ⟨bh, oh + i * 7 + 5, none⟩ = some (.int .i8 x5) /\ w'.cell? ⟨bh, oh + i * 7 + 6, none⟩ = some (.bool hf))
    (first | exact ⟨m0, m1, zC, y0, y1, y2, y3, y4, y5, y6⟩ | exact ⟨p_1_0, p_1_1, p_1_2, p_1_3, p_1_4, p_1_5, p_1_6, p_1_7, p_1_8, p_1_9⟩ | exact ⟨p_2_0, p_2_1, p_2_2, p_2_3, p_2_4, p_2_5, p_2_6, p_2_7, p_2_8, p_2_9⟩)
    (first
    | (go_at_call 38; refine (zL.out _ _ zO.out).mono ?_; rintro e R ⟨vP, rfl, yo, L⟩
       have p_2_0 := zct L p_1_0;have p_2_1 := zct L p_1_1;have p_2_2 := zct L p_1_2;have p_2_3 := zct L p_1_3;have p_2_4 := zct L p_1_4;have p_2_5 := zct L p_1_5;have p_2_6 := zct L p_1_6;have p_2_7 := zct L p_1_7;have p_2_8 := zct L p_1_8;have p_2_9 := zct L p_1_9;have xv := L.size;have xt := yy.below L;have zN := hid yo)
    | (go_at_call 10; refine (zJ.out _ zv).mono ?_; rintro e xw ⟨_, rfl, ⟨yp, _⟩, M⟩
       have p_1_0 := zct M m0;have p_1_1 := zct M m1;have p_1_2 := zct M zC;have p_1_3 := zct M y0;have p_1_4 := zct M y1;have p_1_5 := zct M y2;have p_1_6 := zct M y3;have p_1_7 := zct M y4;have p_1_8 := zct M y5;have p_1_9 := zct M y6;have xu : wr.heap.size <= xw.heap.size := M.size;have yy := zv.below M;have zO := hid yp))
   have pB : Below wr.heap.size wr R := zbt (zbt (bdN wr 1) M) L;have hF : Below U.heap.size U R := zbt z pB;have z6 := zbt hT hF;have zg := WRA hO pB;have yi := z2.below pB;have z7 := zt.bl pB;have zk : RdQ R (.slice zD P.length c6) (topTo P.length B H i) := RdC.below yl pB;have xT : wr.heap.size <= R.heap.size := pB.size;have ho : RdQ R vP (stepF P.length (H[i]?.getD ([], false))) := by rw [<- zQ.out]; exact zN.out.rd
   have yq := sFl P.length (H[i]?.getD ([], false));have zl := sFl P.length (H[i]?.getD ([], false));obtain ⟨pf, cf, rfl, -, -, -⟩ := ho.open;rw [yq] at ho ⊢;clear pB M L xu xv yy xt zv yp yo zO zN zJ zL zQ hO z2 zt yl m0 m1 zC y0 y1 y2 y3 y4 y5 y6 p_1_0 p_1_1 p_1_2 p_1_3 p_1_4 p_1_5 p_1_6 p_1_7 p_1_8 p_1_9 p_2_0 p_2_1 p_2_2 p_2_3 p_2_4 p_2_5 p_2_6 p_2_7 p_2_8 p_2_9;have zb : ∀ j (t : j < (topTo P.length B H i).length), Sz 3 (topTo P.length B H i)[j] := fun j t => s3o ((ftp P.length B H yA.out i _ (List.getElem_mem t)).mono (by omega))
   have za : ∀ j (t : j < (stepF P.length (H[i]?.getD ([], false))).length), Sz 3 (stepF P.length (H[i]?.getD ([], false)))[j] := fun j t => s3o ((fsp P.length _ _ (List.getElem_mem t)).mono (by omega))
   have yC := hid zb;have yB := hid za;have yr := zS.out i;have zK : Hid (topTo P.length B H (i + 1) = List.zipWith (·+ ·) (topTo P.length B H i) (stepF P.length (H[i]?.getD ([], false)))) := rfl;have hA := hid (zS.out (i + 1));have yH := hid (sTn P.length B H i);have hw := hid (sTl P.length B H i);generalize hZ : topTo P.length B H (i + 1) = Z at *;have yK := hid hZ;clear hZ;generalize topTo P.length B H i = top at *;generalize stepF P.length (H[i]?.getD ([], false)) = st at *;generalize y9 : sTo P.length B H (i + 1) = SZ at *;have yG := hid y9;clear y9;generalize sTo P.length B H i = SF at *;have yF := hid zk;have zP := hid ho;clear zb za yq;have z5 := hid yr;have z4 := hid zl;clear yr zl zk ho;obtain ⟨wa, xl⟩ : ∃ x, x = wr := ⟨_, rfl⟩;subst xl;go_wp2_with fail;obtain ⟨X, hX⟩ := zex (R.alloc (.cells #[] 55));have yS : Below R.heap.size R X := by rw [hX]; exact zal _ _
   have yP : X.ownsRow R.heap.size 55 1 (.slice (some ⟨R.heap.size, 0, none⟩) 0 0) 0 ([] : List Value) := by
    rw [hX];have := World.ownsRow_lit (base := R.heap.size) (e := 55) (size := 1) R #[] 0 (by simp) (by decide) rfl;simpa using this
   rw [<- hX];clear hX;go_loopw [9, 10] (fun t9 t10 wr => ∃ (j : Nat), t10 = .int .i64 j /\ j <= P.length /\ wr.ownsRow R.heap.size 55 1 t9 j (cFd (Z.take j)) /\ Below R.heap.size R wr) (fun _ t10 _ => P.length - (RowKit.intOf t10).toNat)
   case atStart => exact ⟨0, rfl, Nat.zero_le _, yP, yS⟩
   case round =>
    obtain ⟨j, rfl, xM, h3, c⟩ := hrel;obtain ⟨p9, c9, rfl⟩ := oRs h3;rcases Nat.lt_or_ge j P.length with t | t
    ·obtain ⟨b6, o6, xC, ev, yW, ye⟩ := yF.out.cells (by have := z5.out; omega)
     obtain ⟨bs, os, xE, zp, yZ, yf⟩ := zP.out.cells (by have := z4.out; omega);injection ev with ev1 ev2' ev3
     injection zp with ev4 ev5 ev6
     clear ev2' ev5;subst ev1 ev3 ev4 ev6;have z0 : j < top.length := by have := z5.out; omega
     have hY : j < st.length := by have := z4.out; omega
     have l1 := ye j z0;have u1 := yf j hY;rw [hh0 top j z0] at l1;rw [hh0 st j hY] at u1;have yI : Hid (Z.take (j + 1) = Z.take j ++ [top[j] + st[j]]) := by
      unfold Hid;have hz : j < Z.length := by have := hA.out; omega
      rw [List.take_succ_eq_append_getElem hz];congr 2;have e : Z[j]? = (List.zipWith (·+ ·) top st)[j]? := by rw [zK.out]
      rw [List.getElem?_eq_getElem hz, List.getElem?_eq_getElem (by rw [List.length_zipWith]; omega), List.getElem_zipWith] at e;exact Option.some.inj e
     have zE := hid fun w hg => rAa top[j] st[j] 3 (by decide) (by decide) (yC.out j z0) (yB.out j hY) w hg
     generalize top[j] = l at *;generalize st[j] = u at *;have xN : (j : Int) < (P.length : Int) := by omega
     have zH : Hid (∀ w', Below R.heap.size R w' -> Good w') := fun w' hb => hg.below (z6.trans (hb.mono z6.size));have hv : Hid (∀ w', Below R.heap.size R w' -> w'.cell? ⟨b6, o6 + j, none⟩ = some (.string (RS l)) /\ w'.cell? ⟨bs, os + j, none⟩ = some (.string (RS u))) := fun w' hb => ⟨(zcq hb yW l1 :), (zcq hb yZ u1 :)⟩;have z3 : Below R.heap.size R wr.drew := c.trans ((bdN wr 1).mono c.size);have zU : Below wr.heap.size wr wr.drew := bdN wr 1;have zm := WRA h3 zU;have xq := c.size;clear h3 l1 u1 ye yf z0 hY;go_upto_region 12 with fail;refine AnyL.region (S := Till 11 (fun w' => w'.cell? ⟨b6, o6 + j, none⟩ = some (.string (RS l)) /\ w'.cell? ⟨bs, os + j, none⟩ = some (.string (RS u))) (fun _ => True)) (by kernel_rfl) ?_;have Y : Till 11 (fun w' => w'.cell? ⟨b6, o6 + j, none⟩ = some (.string (RS l)) /\ w'.cell? ⟨bs, os + j, none⟩ = some (.string (RS u))) (fun _ => True) (Array.replicate 13 false) _ := ⟨hv.out _ z3, fun _ => trivial⟩;refine zlk 0 Y ?_;try simp only [Act.put]
     refine zlk 1 Y ?_;try simp only [Act.put]
     refine zlk 2 Y ?_;try simp only [Act.put]
     refine zlk 3 Y ?_;try simp only [Act.put]
     refine zlk 4 Y ?_;try simp only [Act.put]
     refine zlk 5 Y ?_;try simp only [Act.put]
     refine zlk 6 Y ?_;try simp only [Act.put]
     refine zlk 7 Y ?_;try simp only [Act.put]
     refine zlk 8 Y ?_;try simp only [Act.put]
     refine AnyL.one (i := 9) (o := _) (by kernel_rfl) rfl (fun K hK => ?_);go_simp
     (refine (zE.out _ (zH.out _ z3)).mono ?_; rintro e y1 ⟨_, rfl, rfl, hs⟩; have h4 := zbt z3 hs; have hS := WRA zm hs)
     refine hK.out _ _ ⟨hv.out _ h4, fun hk => trivial⟩ (fun Y => ?_);clear hK K;try simp only [Act.put]
     refine AnyL.one (i := 10) (o := _) (by kernel_rfl) rfl (fun K hK => ?_);go_simp;refine hK.out _ _ ⟨hv.out _ (h4.alloc h4.size _), fun hk => trivial⟩ (fun Y => ?_);clear hK K;try simp only [Act.put]
     refine AnyL.one (i := 11) (o := _) (by kernel_rfl) rfl (fun K hK => ?_)
     (rw [if_pos (by simp [Region.wanted])]; refine wp_append_own _ (.tmp 48) (.tmp 58) 33 (by rfl) R.heap.size 55 i0 (.string ⟨#[]⟩) 1 16 Tryz.underlying33 hi xm xn xo rfl (by decide) _ _ _ (by simp [Act.eval]) (hS.alloc _) ⟨y1.heap.size, 0, none⟩ 1 1 [.string (RS (l + u))] (by simp [Act.eval]) rfl (cos _ _ _) (ocs _) (by unfold maxLen; omega) (by omega) (by have := h4.size; simp; omega) ?_; intro v8 w8 hd zc _; have ym := (h4.alloc h4.size (.cells #[.string (RS (l + u))] 55)).grown zc (by have := h4.size; simp; omega) (fun j t => by have := (hS.lt j t).1; omega))
     refine hK.out _ _ ⟨hv.out _ ym, fun hk => trivial⟩ (fun Y => ?_);clear hK K;try simp only [Act.put]
     refine AnyL.take (i := 12) (oi := _) (v := ?_) rfl (by kernel_rfl) (by kernel_rfl) (by kernel_rfl) (by decide) (fun _ _ _ h => h) (Or.inl ⟨by rfl, ?_⟩) ⟨Y.1, fun hk => (by simp at hk)⟩ ?_;rotate_left
     ·intro w yV; (try dsimp only at yV); first | (go_simp; done) | (go_simp; with_reducible rfl)
     try simp only [Act.put]
     refine AnyL.done (by kernel_rfl) ?_ _;have zw : w8.ownsRow R.heap.size 55 1 v8 (j + 1) (cFd (Z.take (j + 1))) := by
      rw [yI.out];unfold cFd at hd ⊢;rw [List.map_append];exact hd
     clear zm hS zc hs h4 z3 hv zE zH zU hd;go_wp2_with fail;go_roundw
     case rel => exact ⟨j + 1, by go_num, by omega, zw, ym⟩
     case measure => simp [RowKit.intOf]; omega
    ·obtain rfl : j = P.length := by omega
     have xq := c.size;have zu : U.heap.size <= R.heap.size := hF.size;have zX : FldV wr U.heap.size (.slice p9 P.length c9) Z := by
      have h1 := h3;rw [List.take_of_length_le (by have := hA.out; omega)] at h1;have h2 : FldV wr R.heap.size (.slice p9 P.length c9) Z := by unfold FldV; rw [hA.out]; exact h1
      exact h2.base zu
     obtain ⟨us, zA, zB, yt⟩ := yi.below c;have zh := WRA zg c;have E := z7.bl c;have hG := zbt hF c;have d1 := E.cell 1 rfl;have d2 := E.cell 2 rfl;have f1 := E.frozen 1;have f2 := E.frozen 2;obtain ⟨j0, t, yu, hs, h5⟩ := info_parts iFd;rw [hw.out] at zA zB E d2;try rw [hw.out]
     clear h3 zg z7;have C := zB.alloc (.cells #[.slice p9 P.length c9] 33);have hc := zh.alloc (.cells #[.slice p9 P.length c9] 33);have hh : (wr.alloc (.cells #[.slice p9 P.length c9] 33)).ownsRow U.heap.size 55 1 (.slice p9 P.length c9) Z.length (cFd Z) := World.ownsRow.alloc zX _;have h8 := E.alloc (.cells #[.slice p9 P.length c9] 33);have hJ := hG.alloc hG.size (.cells #[.slice p9 P.length c9] 33);have yv := obN C h8 (by decide);have zT := oat hc C (by decide);have hC := oat hh C (by decide);have xz := hG.size;clear zo c5 E zX zh
     go_upto_region 14 with (at_builtin; refine wpList_append_own _ rfl _ _ 43 rfl U.heap.size 33 j0 (.slice none 0 0) 1 24 Tryz.underlying43 t yu hs h5 rfl (by decide) _ _ _ rfl C ⟨wr.heap.size, 0, none⟩ 1 1 [.slice p9 P.length c9] rfl rfl (cell_one_new _ _ _) (by intro u hu; simp at hu; subst hu; rfl) (by unfold maxLen; omega) (by omega) (by simp; omega) ?_
                             intro v3 w3 hR Q _;have z8 : Below U.heap.size U w3 := hJ.grown Q (by simp; omega) (fun j t => (C.lt j t).1);have hQ := World.ownsRow.kept hc Q zT;have N := h8.gb Q (fun e => yv e.symm);have zr := World.ownsRow.kept hh Q hC;have yL := N.cell 1 rfl;have yM := N.cell 2 rfl;have yN := N.frozen 1;have yO := N.frozen 2;obtain ⟨p3, c3, rfl⟩ := oRs hR)
     obtain ⟨y, hy⟩ := zex (w3.setCell ⟨U.heap.size + 1, 2, none⟩ (.slice p3 (i + 1) c3));have hU : w3.grownBy y (some (U.heap.size + 1)) := by rw [hy]; exact gst (grl w3 _) 2 _
     have hl : BoxN y (U.heap.size + 1) 45 [.slice pb P.length cb, .slice pu (i + 1) cu, .slice p3 (i + 1) c3] := by rw [hy]; exact N.set 2 _
     have hL : Below U.heap.size U y := by rw [hy]; exact z8.setCell (p := ⟨U.heap.size + 1, 2, none⟩) (by show U.heap.size <= U.heap.size + 1; omega) _
     have zi := World.ownsRow.kept hQ hU (.inr (fun e => obN hQ N (by decide) e.symm));have zY := World.ownsRow.kept zr hU (.inr (fun e => obN zr N (by decide) e.symm));have zd : FlsV 33 w3 U.heap.size (.slice p3 (i + 1) c3) SZ := by
      rw [yH.out];refine FlsV.snoc (us := us) (v := .slice ps i cs) (by decide) (by rw [zA, hw.out]) (by rw [hw.out]; exact C) (fun i u F a b => World.ownsRow.alloc (yt i u F a b) _) Q (by rw [hw.out]; exact hR) hh
     have ze := zd.kept hU (fun x e s n xs _ h => .inr (fun e' => obN h N (by rename_i he; rcases he with rfl | rfl <;> decide) e'.symm));rw [<- hy];have xS : U.heap.size <= y.heap.size := hL.size;have q1 := hl.cell 1 rfl;have xy := hl.frozen 1;clear hy hU zd hQ N zr z8 hR Q yL yM yN yO d1 d2 f1 f2 C hc hh h8 hJ yv zT hC zB yt zA t yu hs h5;obtain ⟨bv, yd⟩ := zex ((49 + (i + 1)).toUInt8 : UInt8);have yY : (bv.toNat : Int) = 50 + (i : Int) := by
      rw [yd];have : (49 + (i + 1)).toUInt8.toNat = 50 + i := by
       simp [Nat.toUInt8];omega
      rw [this]; omega
     have yE : Hid ((⟨#[117, bv]⟩ : ByteArray) = nameU (i + 1)) := by unfold Hid nameU; rw [yd]
     have yJ := hid (uTn (i + 1));have xQ : IntKind.u8.wrap (i : Int) = (i : Int) := IntWalk.u8_in _ (by omega);have xR : IntKind.u8.wrap (50 + (i : Int)) = 50 + (i : Int) := IntWalk.u8_in _ (by omega);have x8 : (convert 90 9 (.slice (some ⟨y.heap.size, 0, none⟩) 2 2)).run Tryz.prog (y.alloc (.cells #[.int .u8 117, .int .u8 (50 + (i : Int))] 5)) = .ok (.string (nameU (i + 1))) (y.alloc (.cells #[.int .u8 117, .int .u8 (50 + (i : Int))] 5)) := by
      have h1 := run_convert_bytes_back (P := Tryz.prog) (y.alloc (.cells #[.int .u8 117, .int .u8 (50 + (i : Int))] 5)) 90 9 5 ⟨y.heap.size, 0, none⟩ 2 [117, bv] Tryz.underlying90 Tryz.underlying5 Tryz.underlying9 (fun j t => by
       have hb := BoxN.new y #[.int .u8 117, .int .u8 (50 + (i : Int))] 5 _ rfl
       match j, t with
       | 0, _ => exact hb.cell 0 rfl
       | 1, _ =>
         show _ = some (Value.int .u8 (bv.toNat : Int));rw [yY];exact hb.cell 1 rfl)
      rw [<- yE.out];exact h1
     generalize nameU (i + 1) = nm at *;have J := (zi.alloc (.cells #[.int .u8 117, .int .u8 (50 + (i : Int))] 5)).alloc (.cells #[.string nm] 9);obtain ⟨j1, x9, xi, xj, xk⟩ := info_parts ik0;have h9 := (hl.alloc (.cells #[.int .u8 117, .int .u8 (50 + (i : Int))] 5)).alloc (.cells #[.string nm] 9);have hM := (hL.alloc hL.size (.cells #[.int .u8 117, .int .u8 (50 + (i : Int))] 5)).alloc (by simp; omega) (.cells #[.string nm] 9);have hD := World.ownsRow.alloc (World.ownsRow.alloc zY (.cells #[.int .u8 117, .int .u8 (50 + (i : Int))] 5)) (.cells #[.string nm] 9);have hN := ze.below (((Below.refl _ _).alloc (Nat.le_refl _) (.cells #[.int .u8 117, .int .u8 (50 + (i : Int))] 5)).alloc (by simp) (.cells #[.string nm] 9));have yw := obN J h9 (by decide);have hC := oat hD J (by decide)
     go_upto_region 15 with (at_builtin; refine wpList_append_own _ rfl _ _ 42 rfl U.heap.size 9 j1 (.string ⟨#[]⟩) 1 16 Tryz.underlying42 x9 xi xj xk rfl (by decide) _ _ _ rfl J ⟨y.heap.size + 1, 0, none⟩ 1 1 [.string nm] rfl rfl (by intro j u hu; have := cell_one_new (y.alloc (.cells #[.int .u8 117, .int .u8 (50 + (i : Int))] 5)) (.string nm) 9 j u hu; simpa using this) (ocs _) (by unfold maxLen; omega) (by omega) (by simp; omega) ?_
                             intro v4 w4 hm O _;have z9 : Below U.heap.size U w4 := hM.grown O (by simp; omega) (fun j t => (J.lt j t).1);have D := h9.gb O (fun e => yw e.symm);have zs := World.ownsRow.kept hD O hC;have xx := D.cell 1 rfl;have yz := D.frozen 1;obtain ⟨p4, c4, rfl⟩ := oRs hm)
     obtain ⟨y2, h5⟩ := zex (w4.setCell ⟨U.heap.size + 1, 1, none⟩ (.slice p4 (i + 1 + 1) c4));have h0 : w4.grownBy y2 (some (U.heap.size + 1)) := by rw [h5]; exact gst (grl w4 _) 1 _
     have ya : BoxN y2 (U.heap.size + 1) 45 [.slice pb P.length cb, .slice p4 (i + 1 + 1) c4, .slice p3 (i + 1) c3] := by rw [h5]; exact D.set 1 _
     have yc : Below U.heap.size U y2 := by rw [h5]; exact z9.setCell (p := ⟨U.heap.size + 1, 1, none⟩) (by show U.heap.size <= U.heap.size + 1; omega) _
     have zj := World.ownsRow.kept hm h0 (.inr (fun e => obN hm D (by decide) e.symm));have zZ := World.ownsRow.kept zs h0 (.inr (fun e => obN zs D (by decide) e.symm));have zf := hN.kept O (fun x e s n xs he h => oat h J (by rcases he with rfl | rfl <;> decide));have yj := zf.kept h0 (fun x e s n xs he h => .inr (fun e' => obN h D (by rcases he with rfl | rfl <;> decide) e'.symm));have yU : RdQ y2 (.slice p9 P.length c9) Z := FldV.rd (B := U.heap.size) (by have h1 := zZ; exact h1);have yk : y2.ownsRow U.heap.size 9 1 (.slice p4 (i + 1 + 1) c4) (i + 1 + 1) ((uTo (i + 1 + 1)).map fun x => Value.string x) := by
      rw [yJ.out, List.map_append];exact zj
     have xp : V.heap.size <= y2.heap.size := by
      have h1 := h0.size;have h2 := O.size;simp at h2;omega
     rw [<- h5];clear h5 h0 zj zZ zf zs hm D O z9 xx yz J h9 hM hD hN yw hC zi zY ze hl q1 xy x8;go_wp2_with fail;go_roundw
     case rel => exact ⟨i + 1, p9, c9, _, _, by go_num, by omega, rfl, by rw [yK.out]; exact yU, yk, by rw [yG.out]; exact yj, ya, yc, xp⟩
     case measure => simp [RowKit.intOf]; omega
  ·obtain rfl : i = n := by omega
   have xI : ¬ (i : Int) < (i : Int) := by omega
   have h6 := bm.bl z;have m := bd.bl z;obtain ⟨g0, g1, g2⟩ := zk3 zt;obtain ⟨r0, r1⟩ := zk2 h6;obtain ⟨r2, r3, r4⟩ := zk3 m;have v5 := h6.frozen 0;have v6 := h6.frozen 1;have v7 := m.frozen 0;have v9 := m.frozen 1;have va := m.frozen 2;have xB := bd.lt;have xV : ¬ w.heap.size = U.heap.size := by omega
   have xW : ¬ w.heap.size + 1 = U.heap.size := by omega
   have xX : ¬ w.heap.size + 1 = o2.heap.size := by omega
   have xY : ¬ w.heap.size + 2 = o2.heap.size := by omega
   have xZ : ¬ w.heap.size + 1 + 1 = o2.heap.size := by omega
   have v0 : ¬ w.heap.size + 1 = U.heap.size + 1 := by omega
   have v1 : ¬ w.heap.size + 2 = U.heap.size + 1 := by omega
   have v2 : ¬ w.heap.size + 1 + 1 = U.heap.size + 1 := by omega
   go_upto_region 16 with fail;go_region;all_goals (go_wp2_with fail)
   have G : w.heap.size + 1 + 1 ≠ w.heap.size + 1 := by omega
   have xb := RdC.set5m h6 m G (RdC.below zx z) (by intro y hy e; rw [e] at hy; obtain ⟨x, -, hx⟩ := List.mem_flatMap.1 hy; simp at hx) (.slice pp P.length g) (.slice pt (sTT k).length ct) (.slice pb P.length cb) (.slice pu (i + 1) cu) (.slice ps (sTo P.length B H i).length cs);have xf := RdC.set5m h6 m G (RdC.below zz z) (by intro y hy e; rw [e] at hy; obtain ⟨x, -, hx⟩ := List.mem_flatMap.1 hy; simp at hx) (.slice pp P.length g) (.slice pt (sTT k).length ct) (.slice pb P.length cb) (.slice pu (i + 1) cu) (.slice ps (sTo P.length B H i).length cs);have yX := RdC.set5m h6 m G (RdC.below zM.out z) (by intro y hy e; rw [e] at hy; simp at hy) (.slice pp P.length g) (.slice pt (sTT k).length ct) (.slice pb P.length cb) (.slice pu (i + 1) cu) (.slice ps (sTo P.length B H i).length cs);have gA := gst (gst (grl wr (some (w.heap.size + 1))) 0 (.slice pp P.length g)) 1 (.slice pt (sTT k).length ct);have ys := World.ownsRow.kept hO gA (.inr (fun e => by have := (hO.lt _ e).1; omega));have zy := z2.kept gA (fun x e s n xs _ h => .inr (fun e => by have := (h.lt _ e).1; omega));have gB := gst (gst (gst (grl ((wr.setCell ⟨w.heap.size + 1, 0, none⟩ (.slice pp P.length g)).setCell ⟨w.heap.size + 1, 1, none⟩ (.slice pt (sTT k).length ct)) (some (w.heap.size + 1 + 1))) 0 (.slice pb P.length cb)) 1 (.slice pu (i + 1) cu)) 2 (.slice ps (sTo P.length B H i).length cs);have xg := World.ownsRow.kept ys gB (.inr (fun e => by have := (ys.lt _ e).1; omega));have xd := zy.kept gB (fun x e s n xs _ h => .inr (fun e => by have := (h.lt _ e).1; omega));have kA := bKf (i := 2) (v := .slice ps (sTo P.length B H i).length cs) (bKf (i := 1) (v := .slice pu (i + 1) cu) (bKf (i := 0) (v := .slice pb P.length cb) ((h6.set 0 (.slice pp P.length g)).set 1 (.slice pt (sTT k).length ct)) (Ne.symm G)) (Ne.symm G)) (Ne.symm G);have kB := (((bKf (i := 1) (v := .slice pt (sTT k).length ct) (bKf (i := 0) (v := .slice pp P.length g) m G) G).set 0 (.slice pb P.length cb)).set 1 (.slice pu (i + 1) cu)).set 2 (.slice ps (sTo P.length B H i).length cs);have zW := (((((A.setCell (p := ⟨w.heap.size + 1, 0, none⟩) (by show w.heap.size <= w.heap.size + 1; omega) (.slice pp P.length g)).setCell (p := ⟨w.heap.size + 1, 1, none⟩) (by show w.heap.size <= w.heap.size + 1; omega) (.slice pt (sTT k).length ct)).setCell (p := ⟨w.heap.size + 1 + 1, 0, none⟩) (by show w.heap.size <= w.heap.size + 1 + 1; omega) (.slice pb P.length cb)).setCell (p := ⟨w.heap.size + 1 + 1, 1, none⟩) (by show w.heap.size <= w.heap.size + 1 + 1; omega) (.slice pu (i + 1) cu)).setCell (p := ⟨w.heap.size + 1 + 1, 2, none⟩) (by show w.heap.size <= w.heap.size + 1 + 1; omega) (.slice ps (sTo P.length B H i).length cs));obtain ⟨t0, t1⟩ := zk2 kA;obtain ⟨t2, t3, t4⟩ := zk3 kB;have xh := (RdC.of_owns xg).drewN 1;have yQ : (uTo (i + 1)).length = i + 1 := by unfold uTo; simp
   have xe := (xd.below (bdN _ 1)).base hT.size;refine bodyPost_ret (v := .tuple #[.agg #[.slice pp P.length g, .slice pt (sTT k).length ct], .agg #[.slice pb P.length cb, .slice pu (i + 1) cu, .slice ps (sTo P.length B H i).length cs]]) (by simp [results, Tryz.results9, go_sem, t0, t1, t2, t3, t4]) rfl ⟨_, rfl, ⟨_, _, _, _, _, rfl, xb, xf, yX, by unfold RdS; rw [yQ]; exact xh, xe⟩, zW.trans ((bdN _ 1).mono zW.size)⟩
theorem fm0 (w : World) (O N M : Int) (Z : Bool) (a0 X V U S R : Int) (Q : Bool) (p : Option Addr) (n c : Nat) (L : n <= 9223372036854775807) :
 Calls Tryz.prog 8 #[.agg #[.int .u8 O, .int .i8 N, .int .i8 M, .bool Z, .int .i8 a0, .int .i8 X, .int .i8 V, .int .i8 U, .int .i8 S, .int .i8 R, .bool Q, .slice p n c]] w (Ret (fun r _ => r = .bool (decide (n <= 3))) w) := by
 have Y : Hid (decide ((n : Int) <= 3) = decide (n <= 3)) := decide_eq_decide.2 (by omega);generalize decide (n <= 3) = res at *;go_enter Tryz.func8, Tryz.ntmps8;go_wp2_with fail;go_ret;exact ⟨_, rfl, congrArg Value.bool Y.out, (Below.refl _ _).alloc (Nat.le_refl _) _⟩
theorem fay (w : World) (q : Rat) :
 Calls Tryz.prog 36 #[.string (RS q)] w (Ret (fun r w' => RdQ w' r [q, q, q, q]) w) := by
 generalize Z : RS q = s;have Y := hid Z;clear Z;go_enter Tryz.func36, Tryz.ntmps36;go_wp2_with fail;go_ret;exact ⟨_, rfl, RdQ.fresh w [q, q, q, q] 55 #[.string s, .string s, .string s, .string s] (by rw [<- Y.out]; rfl) (by simp) 4 rfl _ rfl, (Below.refl _ _).alloc (Nat.le_refl _) _⟩
theorem snl (a : Addr) (n c : Nat) (w : World) : (binOp BinOp.eql 42 (.slice (some a) n c) (.slice none 0 0)).run Tryz.prog w = .ok (.bool false) w := by kernel_rfl
theorem cl0 (w : World) (I : Value) (L : List ByteArray) (h : RdS w I L) (V : L ≠ []) (v : L.length <= 1000000) :
 Calls Tryz.prog 82 #[I] w (Ret (fun r w' => w'.ownsRow w.heap.size 9 1 r L.length (L.map fun x => Value.string x)) w) := by
 obtain ⟨p, c, rfl, B, t, J⟩ := h.open;obtain ⟨b, off, rfl, y, X⟩ := J V;have C := List.length_pos_iff.2 V;obtain ⟨A, D, O, N, M⟩ := info_parts ik0;have G : Hid (∀ o, ∀ (j : Nat) (u : Value), (L.map fun x => Value.string x)[j]? = some u -> (w.alloc o).cell? ((⟨b, off, none⟩ : Addr).add j) = some u) := fun o j u hu => by
  rw [List.getElem?_map] at hu;rcases Nat.lt_or_ge j L.length with U | U
  ·rw [List.getElem?_eq_getElem U] at hu
   injection hu with hu
   subst hu;have S : (⟨b, off, none⟩ : Addr).add j = ⟨b, off + j, none⟩ := by unfold Addr.add; split <;> simp_all
   rw [S];exact cal o (X j U)
  ·rw [List.getElem?_eq_none U] at hu; cases hu
 have E : Hid (∀ u ∈ (L.map fun x => Value.string x), u.oneCell' = true) := fun u hu => by
  obtain ⟨q, _, rfl⟩ := List.mem_map.1 hu;rfl
 clear h J X V;have K := snl;go_enter Tryz.func82, Tryz.ntmps82
 go_wp2_with (at_builtin; refine wpList_append_own _ rfl _ _ 42 rfl w.heap.size 9 A (.string ⟨#[]⟩) 1 16 Tryz.underlying42 D O N M rfl (by decide) (.slice (some ⟨w.heap.size, 0, none⟩) 0 0) 0 [] rfl (World.ownsRow_made w #[] 0 (Nat.le_refl _) (by decide) rfl) ⟨b, off, none⟩ L.length c (L.map fun x => Value.string x) rfl (by simp) (G.out _) E.out (by unfold maxLen; omega) (by omega) (by simp) ?_
              intro z H Z Y _;have Q : Below w.heap.size w H := ((Below.refl _ _).alloc (Nat.le_refl _) _).grown Y (by simp) (fun j U => by simp [Value.ownBlock] at U; omega);clear Y)
 have R : Hid (H.ownsRow w.heap.size 9 1 z L.length (L.map fun x => Value.string x)) := by
  rw [Nat.zero_add, List.nil_append] at Z;exact Z
 clear Z;go_wp2_with fail;go_ret;exact ⟨_, rfl, R.out, Q⟩
def FlsD (E : Nat) (w : World) (B : Nat) (v : Value) (S : List (List Rat)) : Prop :=
 ∃ us : List Value, us.length = S.length /\ w.ownsRow B E 1 v S.length us /\ (∀ (i : Nat) (u : Value) (F : List Rat), us[i]? = some u -> S[i]? = some F -> FldV w B u F) /\
  ∀ (i j : Nat) (u u' : Value), i ≠ j -> us[i]? = some u -> us[j]? = some u' -> u.ownBlock ≠ u'.ownBlock
theorem FlsD.v {E : Nat} {w : World} {B : Nat} {v : Value} {S : List (List Rat)} (h : FlsD E w B v S) : FlsV E w B v S := by
 obtain ⟨us, Z, Y, X, -⟩ := h;exact ⟨us, Z, Y, X⟩
theorem FlsD.nil (E : Nat) (w : World) (B : Nat) : FlsD E w B (.slice none 0 0) [] := ⟨[], rfl, World.ownsRow_nil _ _ _ _, fun i u F h => by simp at h, fun i j u u' _ h => by simp at h⟩
theorem FlsD.below {E : Nat} {w w' : World} {B : Nat} {v : Value} {S : List (List Rat)} (h : FlsD E w B v S) (Z : Below w.heap.size w w') : FlsD E w' B v S := by
 obtain ⟨us, Y, X, V, U⟩ := h;exact ⟨us, Y, WRA X Z, fun i u F a b => (V i u F a b).below Z, U⟩
theorem FlsD.base {E : Nat} {w : World} {B B' : Nat} {v : Value} {S : List (List Rat)} (h : FlsD E w B v S) (Z : B' <= B) : FlsD E w B' v S := by
 obtain ⟨us, Y, X, V, U⟩ := h;exact ⟨us, Y, oRb X Z, fun i u F a b => (V i u F a b).base Z, U⟩
theorem FlsD.snoc {E : Nat} (I : 55 ≠ E) {w w' : World} {B M : Nat} {v v' u : Value} {S : List (List Rat)} {us : List Value} {F : List Rat} (V : us.length = S.length) (K : w.ownsRow B E 1 v S.length us)
 (J : ∀ (i : Nat) (u : Value) (F : List Rat), us[i]? = some u -> S[i]? = some F -> FldV w B u F) (t : ∀ (i j : Nat) (u C : Value), i ≠ j -> us[i]? = some u -> us[j]? = some C -> u.ownBlock ≠ C.ownBlock)
 (H : ∀ (i : Nat) (u : Value) (b : Nat), us[i]? = some u -> u.ownBlock = some b -> b < M)
 (D : w.grownBy w' v.ownBlock) (Y : w'.ownsRow B E 1 v' (S.length + 1) (us ++ [u])) (N : FldV w M u F) (L : F ≠ []) (U : B <= M) : FlsD E w' B v' (S ++ [F]) := by
 obtain ⟨n, m, l, f⟩ := FlsV.snoc I V K J D Y (N.base U);have Z : ∃ b, u.ownBlock = some b /\ M <= b := by
  obtain ⟨d, s⟩ := N;rcases s with ⟨rfl, r⟩ | ⟨g, cap, A, rfl, p, _⟩
  ·exact absurd (List.length_eq_zero_iff.1 r) L
  ·exact ⟨g, rfl, p⟩
 obtain ⟨b, Z, q⟩ := Z;have key : ∀ {x F}, FldV w B x F -> FldV w' B x F := fun h => World.ownsRow.kept h D (oat h K I);refine ⟨us ++ [u], by simp [V], by rw [List.length_append]; exact Y, fun i x G a c => ?_, fun i j x y hij a c => ?_⟩
 ·rcases Nat.lt_or_ge i S.length with h | h
  ·rw [List.getElem?_append_left (by omega)] at a
   rw [List.getElem?_append_left h] at c;exact key (J i x G a c)
  ·have Q := (List.getElem?_eq_some_iff.1 c).1
   rw [List.length_append] at Q;obtain rfl : i = S.length := by simp at Q; omega
   rw [List.getElem?_append_right (Nat.le_refl _), Nat.sub_self] at c;rw [List.getElem?_append_right (by omega), V, Nat.sub_self] at a;simp at a c;subst a; subst c;exact key (N.base U)
 ·have R : (us ++ [u]).length = S.length + 1 := by simp [V]
  have o := (List.getElem?_eq_some_iff.1 a).1;have Q := (List.getElem?_eq_some_iff.1 c).1;rw [R] at o Q;have X : ∀ {k : Nat} {z : Value}, k = S.length -> (us ++ [u])[k]? = some z -> z = u := fun hk hz => by
   subst hk;rw [List.getElem?_append_right (by omega), V, Nat.sub_self] at hz;simpa using hz.symm
  have fst : ∀ {k : Nat} {z : Value}, k < S.length -> (us ++ [u])[k]? = some z -> us[k]? = some z := fun hk hz => by
   rwa [List.getElem?_append_left (by omega)] at hz
  rcases Nat.lt_or_ge i S.length with h | h <;> rcases Nat.lt_or_ge j S.length with O | O
  ·exact t i j x y hij (fst h a) (fst O c)
  ·rw [X (by omega) c, Z]
   intro e;have := H i x b (fst h a) e;omega
  ·rw [X (by omega) a, Z]
   intro e;have := H j y b (fst O c) e.symm;omega
  ·omega
theorem FlsD.kept {E : Nat} {w w' : World} {B : Nat} {v : Value} {S : List (List Rat)} {row : Option Nat} (h : FlsD E w B v S) (V : w.grownBy w' row) (Z : ∀ (x : Value) (e s n : Nat) (Q : List Value), (e = E \/ e = 55) -> w.ownsRow B e s x n Q -> x.ownBlock = none \/ x.ownBlock ≠ row) : FlsD E w' B v S := by
 obtain ⟨us, U, Y, X, R⟩ := h;exact ⟨us, U, World.ownsRow.kept Y V (Z _ _ _ _ _ (.inl rfl) Y), fun i u F a b => World.ownsRow.kept (X i u F a b) V (Z _ _ _ _ _ (.inr rfl) (X i u F a b)), R⟩
theorem lay (a b c : PtQ) (k : Nat) (q : 0 < k) (h0 : k <= 2000) (g : SzP k a) (f : SzP k b) (d : SzP k c) (w : World) (hg : Good w) :
 Calls Tryz.prog 24 #[VP a, VP b, VP c] w (Ret (fun r _ => r = .string (RS (areaQ a b c))) w) := by
 obtain ⟨W, h, ⟨a0, j⟩, ⟨i, b1⟩, ⟨c0, c1⟩, D, h1⟩ := tbs w a b c 73;have n := hg.below D;obtain ⟨Q, O⟩ := a;obtain ⟨L, M⟩ := b;obtain ⟨K, J⟩ := c;unfold VP areaQ;dsimp only [SzP] at *;have N := hid g;have t := hid f;have s := hid d;have HW := hid h;clear h g f d;go_enter Tryz.func24, Tryz.ntmps24;have C : Good W.drew := n.drewN 1;have I : Hid (Sz (2 * k + 1) (L - Q)) := (t.out.1.sub N.out.1).mono (by omega);have H : Hid (Sz (2 * k + 1) (J - O)) := (s.out.2.sub N.out.2).mono (by omega);have G : Hid (Sz (2 * k + 1) (M - O)) := (t.out.2.sub N.out.2).mono (by omega);have E : Hid (Sz (2 * k + 1) (K - Q)) := (s.out.1.sub N.out.1).mono (by omega);have p : Hid (Sz (4 * k + 2) ((L - Q) * (J - O))) := (I.out.mul H.out).mono (by omega);have o : Hid (Sz (4 * k + 2) ((M - O) * (K - Q))) := (G.out.mul E.out).mono (by omega);go_upto_region 1 with fail;rw [<- HW.out];go_region_held3 (fun w' => w'.cell? ⟨w.heap.size, 0, none⟩ = some (.string (RS Q)) /\ w'.cell? ⟨w.heap.size, 1, none⟩ = some (.string (RS O)) /\ w'.cell? ⟨w.heap.size + 1, 0, none⟩ = some (.string (RS L)) /\ w'.cell? ⟨w.heap.size + 1, 1, none⟩ = some (.string (RS M)) /\ w'.cell? ⟨w.heap.size + 2, 0, none⟩ = some (.string (RS K)) /\ w'.cell? ⟨w.heap.size + 2, 1, none⟩ = some (.string (RS J)))
  (first | exact ⟨a0, j, i, b1, c0, c1⟩ | exact ⟨p_1_0, p_1_1, p_1_2, p_1_3, p_1_4, p_1_5⟩ | exact ⟨p_2_0, p_2_1, p_2_2, p_2_3, p_2_4, p_2_5⟩ | exact ⟨p_3_0, p_3_1, p_3_2, p_3_3, p_3_4, p_3_5⟩ | exact ⟨p_4_0, p_4_1, p_4_2, p_4_3, p_4_4, p_4_5⟩ | exact ⟨p_5_0, p_5_1, p_5_2, p_5_3, p_5_4, p_5_5⟩ | exact ⟨p_6_0, p_6_1, p_6_2, p_6_3, p_6_4, p_6_5⟩ | exact ⟨p_7_0, p_7_1, p_7_2, p_7_3, p_7_4, p_7_5⟩)
  (first
  | (go_at_call 23; refine (rSa ((L - Q) * (J - O)) ((M - O) * (K - Q)) (4 * k + 2) (by omega) (by omega) p.out o.out _ v).mono ?_; rintro e l ⟨_, rfl, rfl, R⟩
     have p_7_0 := zct R p_6_0;have p_7_1 := zct R p_6_1;have p_7_2 := zct R p_6_2;have p_7_3 := zct R p_6_3;have p_7_4 := zct R p_6_4;have p_7_5 := zct R p_6_5;have h9 := R.size;have h2 := v.below R)
  | (go_at_call 25; refine (rMa (M - O) (K - Q) (2 * k + 1) (by omega) (by omega) G.out E.out _ x).mono ?_; rintro e hi ⟨_, rfl, rfl, S⟩
     have p_6_0 := zct S p_5_0;have p_6_1 := zct S p_5_1;have p_6_2 := zct S p_5_2;have p_6_3 := zct S p_5_3;have p_6_4 := zct S p_5_4;have p_6_5 := zct S p_5_5;have h8 := S.size;have v := x.below S)
  | (go_at_call 23; refine (rSa K Q k q (by omega) s.out.1 N.out.1 _ y).mono ?_; rintro e hh ⟨_, rfl, rfl, U⟩
     have p_5_0 := zct U p_4_0;have p_5_1 := zct U p_4_1;have p_5_2 := zct U p_4_2;have p_5_3 := zct U p_4_3;have p_5_4 := zct U p_4_4;have p_5_5 := zct U p_4_5;have h7 := U.size;have x := y.below U)
  | (go_at_call 23; refine (rSa M O k q (by omega) t.out.2 N.out.2 _ z).mono ?_; rintro e hf ⟨_, rfl, rfl, V⟩
     have p_4_0 := zct V p_3_0;have p_4_1 := zct V p_3_1;have p_4_2 := zct V p_3_2;have p_4_3 := zct V p_3_3;have p_4_4 := zct V p_3_4;have p_4_5 := zct V p_3_5;have h6 := V.size;have y := z.below V)
  | (go_at_call 25; refine (rMa (L - Q) (J - O) (2 * k + 1) (by omega) (by omega) I.out H.out _ A).mono ?_; rintro e he ⟨_, rfl, rfl, X⟩
     have p_3_0 := zct X p_2_0;have p_3_1 := zct X p_2_1;have p_3_2 := zct X p_2_2;have p_3_3 := zct X p_2_3;have p_3_4 := zct X p_2_4;have p_3_5 := zct X p_2_5;have h5 := X.size;have z := A.below X)
  | (go_at_call 23; refine (rSa J O k q (by omega) s.out.2 N.out.2 _ B).mono ?_; rintro e hd ⟨_, rfl, rfl, Y⟩
     have p_2_0 := zct Y p_1_0;have p_2_1 := zct Y p_1_1;have p_2_2 := zct Y p_1_2;have p_2_3 := zct Y p_1_3;have p_2_4 := zct Y p_1_4;have p_2_5 := zct Y p_1_5;have h4 := Y.size;have A := B.below Y)
  | (go_at_call 23; refine (rSa L Q k q (by omega) t.out.1 N.out.1 _ C).mono ?_; rintro e m ⟨_, rfl, rfl, Z⟩
     have p_1_0 := zct Z a0;have p_1_1 := zct Z j;have p_1_2 := zct Z i;have p_1_3 := zct Z b1;have p_1_4 := zct Z c0;have p_1_5 := zct Z c1;have h3 : W.heap.size <= m.heap.size := Z.size;have B := C.below Z))
 have pB : Below W.heap.size W l := zbt (zbt (zbt (zbt (zbt (zbt (zbt (bdN W 1) Z) Y) X) V) U) S) R;go_wp2_with fail;go_ret;exact ⟨_, rfl, rfl, (zbt D pB)⟩
theorem cof (w : World) (N M : Value) (Q O : ByteArray) (P : List (ByteArray × ByteArray)) (T : List Tri) (K : RdP w N P) (I : RdT w M T) (Φ : Value -> World -> Prop) (b : Bool) (n : Int)
 (hΦ : ∀ r w', Φ r w' -> ∃ H m cs, r = .tuple #[.slice H m cs, .int .i64 n] /\ decide ((0 : Int) < (m : Int)) = b)
 (L : ∀ w', Below w.heap.size w w' -> Calls Tryz.prog 154 #[.agg #[N, M], .agg #[.string Q, .string O]] w' (Ret Φ w')) :
 Calls Tryz.prog 112 #[.agg #[N, M], .agg #[.string Q, .string O]] w (Ret (fun r _ => r = .tuple #[.bool b, .int .i64 n]) w) := by
 have V := hid L;have G := hid hΦ;obtain ⟨C, E, rfl, -, -, -⟩ := K.open;obtain ⟨B, D, rfl, -, -, -⟩ := I.open;clear L hΦ K I;go_enter Tryz.func112, Tryz.ntmps112;go_wp2_with fail;obtain ⟨W, S⟩ := zex ((w.alloc (.cells #[.slice C P.length E, .slice B T.length D] 41)).alloc (.cells #[.string Q, .string O] 73));have U : Below w.heap.size w W := by rw [S]; exact zal2 _ _ _
 rw [<- S];clear S;refine (V.out W U).mono ?_;rintro e z ⟨r, rfl, J, X⟩;obtain ⟨H, m, cs, rfl, Z⟩ := G.out _ _ J;have Y := zbt U X;clear J X U;rcases Nat.eq_zero_or_pos m with rfl | A
 ·obtain rfl : b = false := by rw [<- Z]; rfl
  clear Z;go_wp2_with fail;go_ret2;exact ⟨_, rfl, rfl, Y⟩
 ·have R : (0 : Int) < (m : Int) := by omega
  obtain rfl : b = true := by rw [<- Z]; exact decide_eq_true R
  clear Z;go_wp2_with fail;go_ret2;exact ⟨_, rfl, rfl, Y⟩
theorem RdI.shape {w : World} {v : Value} {l : List Int} (h : RdI .i64 w v l) : ∃ Z cs, v = .slice Z l.length cs := by
 obtain ⟨Z, cs, rfl, -, -, -⟩ := h.open;exact ⟨Z, cs, rfl⟩
theorem cok (w : World) (Z Y : Value) (P : List PtQ) (T : List Tri) (k : Nat) (V : RdP w Z (strP P)) (U : RdT w Y T) (R : MeshOK P T k) (p : PtQ) (X : SzP 200 p) (S : Good w) :
 Calls Tryz.prog 112 #[.agg #[Z, Y], .agg #[.string (RS p.1), .string (RS p.2)]] w (Ret (fun r _ => r = .tuple #[.bool (decide ((0 : Int) < ((locN P T p T.length).length : Int))), .int .i64 0]) w) := by
 refine cof w Z Y _ _ _ T V U _ _ 0 ?_ fun w' hb => lok w' Z Y P T k (RdC.below V hb) (RdC.below U hb) R p X (S.below hb);rintro r w' ⟨v, rfl, Q⟩;obtain ⟨O, cs, rfl⟩ := Q.shape;exact ⟨O, _, cs, rfl, rfl⟩
structure BoxK (z : World) (b : Nat) : Prop where
 c0 : z.cell? ⟨b, 0, none⟩ = some (.string ⟨#[]⟩)
 c1 : z.cell? ⟨b, 1, none⟩ = some (.string ⟨#[]⟩)
 f0 : z.frozen? ⟨b, 0, none⟩ = false
 f1 : z.frozen? ⟨b, 1, none⟩ = false
 lt : b < z.heap.size
theorem BoxK.of {z : World} {b : Nat} (h : BoxN z b 73 [.string ⟨#[]⟩, .string ⟨#[]⟩]) : BoxK z b := ⟨h.cell 0 rfl, h.cell 1 rfl, h.frozen 0, h.frozen 1, h.lt⟩
end Go.Proofs.YtmcbeajdloaliaaGreatDoor
