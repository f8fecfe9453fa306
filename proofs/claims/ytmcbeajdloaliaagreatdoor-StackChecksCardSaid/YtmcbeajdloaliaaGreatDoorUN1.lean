import Derived.Lib.ItoaNum
import Derived.Lib.Atoi
import Derived.Lib.Strings
import Derived.Lib.IndexMore
import Derived.Lib.ParseIntB
/- Plain: numbers, limbs, texts of numbers, meshes. -/
namespace Go.Proofs.YtmcbeajdloaliaaGreatDoor
open Go.Lib
def isDig (c : UInt8) : Prop := 48 <= c.toNat /\ c.toNat <= 57
instance (c : UInt8) : Decidable (isDig c) := by unfold isDig; infer_instance
def dval (l : List UInt8) : Nat := l.foldl (fun a c => 10 * a + (c.toNat - 48)) 0
theorem dsc (l : List UInt8) (c : UInt8) : dval (l ++ [c]) = 10 * dval l + (c.toNat - 48) := by
 simp [dval, List.foldl_append]
theorem dad (l r : List UInt8) : dval (l ++ r) = dval l * 10 ^ r.length + dval r := by
 generalize Z : r.length = n
 induction n generalizing r with
 | zero => obtain rfl := List.length_eq_zero_iff.1 Z; simp [dval]
 | succ n ih =>
   rcases List.eq_nil_or_concat r with rfl | ⟨L, b, rfl⟩
   ·simp at Z
   ·simp only [List.concat_eq_append, List.length_append, List.length_cons, List.length_nil] at Z ⊢
    rw [<- List.append_assoc, dsc, ih L (by omega), dsc, Nat.pow_succ];grind
theorem dcs (c : UInt8) (r : List UInt8) : dval (c :: r) = (c.toNat - 48) * 10 ^ r.length + dval r := by
 rw [<- List.singleton_append, dad];simp [dval]
theorem dlt (l : List UInt8) (h : ∀ c ∈ l, isDig c) : dval l < 10 ^ l.length := by
 induction l with
 | nil => simp [dval]
 | cons c r ih =>
   have Z := h c (by simp);have Y := ih (fun x hx => h x (by simp [hx]));rw [dcs, List.length_cons, Nat.pow_succ];unfold isDig at Z;have : (c.toNat - 48) * 10 ^ r.length <= 9 * 10 ^ r.length := Nat.mul_le_mul_right _ (by omega);omega
theorem tNo (d : Nat) (h : d < 10) : (UInt8.ofNat (48 + d)).toNat = 48 + d := by
 simp; omega
theorem dDs (n : Nat) (h : ¬ n < 10) : decDigits n = decDigits (n / 10) ++ [UInt8.ofNat (48 + n % 10)] := by
 rw [decDigits, dif_neg h]
theorem ddD (n : Nat) : dval (decDigits n) = n := by
 induction n using Nat.strongRecOn with
 | _ n ih =>
   by_cases h : n < 10
   ·rw [decDigits_one h]
    simp only [dval, List.foldl_cons, List.foldl_nil, tNo n h]; omega
   ·rw [dDs n h, dsc, ih (n / 10) (by omega), tNo _ (by omega)]
    omega
theorem dDd (n : Nat) : ∀ c ∈ decDigits n, isDig c := by
 induction n using Nat.strongRecOn with
 | _ n ih =>
   intro c Z;by_cases h : n < 10
   ·rw [decDigits_one h] at Z
    simp only [List.mem_singleton] at Z;subst Z;have := tNo n h;unfold isDig; omega
   ·rw [dDs n h] at Z
    simp only [List.mem_append, List.mem_singleton] at Z;rcases Z with Z | Z
    ·exact ih (n / 10) (by omega) c Z
    ·subst Z
     have := tNo (n % 10) (by omega);unfold isDig; omega
theorem dDn (n : Nat) : decDigits n ≠ [] := by
 intro h;have := decDigits_length n;have := nDigits_pos n;rw [h] at *;simp at *;omega
theorem dDp (n : Nat) (h : 0 < n) : ∃ c r, decDigits n = c :: r /\ 49 <= c.toNat /\ c.toNat <= 57 := by
 induction n using Nat.strongRecOn with
 | _ n ih =>
   by_cases h1 : n < 10
   ·rw [decDigits_one h1]
    exact ⟨_, _, rfl, by rw [tNo n h1]; omega, by rw [tNo n h1]; omega⟩
   ·obtain ⟨c, r, e, Z⟩ := ih (n / 10) (by omega) (by omega)
    rw [dDs n h1, e];exact ⟨c, r ++ _, rfl, Z⟩
theorem de0 (l : List UInt8) (O : ∀ c ∈ l, isDig c) (Q : l ≠ []) (M : ∀ c r, l = c :: r -> c.toNat = 48 -> r = []) :
 decDigits (dval l) = l := by
 generalize J : l.length = n
 induction n using Nat.strongRecOn generalizing l with
 | _ n ih =>
   rcases List.eq_nil_or_concat l with rfl | ⟨L, b, rfl⟩
   ·exact absurd rfl Q
   ·rw [List.concat_eq_append] at *
    have S : isDig b := O b (by simp);have Z : UInt8.ofNat (48 + (b.toNat - 48)) = b := by
     unfold isDig at S;apply UInt8.toNat_inj.1;rw [tNo _ (by omega)]; omega
    by_cases hL : L = []
    ·subst hL
     simp only [List.nil_append] at *;unfold isDig at S;have I : dval [b] = b.toNat - 48 := by simp [dval]
     rw [I, decDigits_one (by omega), Z]
    ·have V : ∀ c ∈ L, isDig c := fun c hc => O c (by simp [hc])
     have U : ∀ c r, L = c :: r -> c.toNat = 48 -> r = [] := by
      intro c r e X;have := M c (r ++ [b]) (by rw [e]; rfl) X;simp at this
     have R := ih L.length (by simp at J; omega) L V hL U rfl;have N : 0 < dval L := by
      rcases Nat.eq_zero_or_pos (dval L) with Y | Y
      ·exfalso
       rw [Y, decDigits_one (by omega)] at R;have K : (UInt8.ofNat (48 + 0)).toNat = 48 := by decide
       have := M (UInt8.ofNat (48 + 0)) [b] (by rw [<- R]; rfl) K;simp at this
      ·exact Y
     unfold isDig at S;rw [dsc, dDs _ (by omega), show (10 * dval L + (b.toNat - 48)) / 10 = dval L by omega, R,
      show (10 * dval L + (b.toNat - 48)) % 10 = b.toNat - 48 by omega, Z]
theorem dDi {a b : Nat} (h : decDigits a = decDigits b) : a = b := by
 rw [<- ddD a, h, ddD]
theorem dDz : decDigits 0 = [48] := by rw [decDigits_one (by omega)]; rfl
def pad (k x : Nat) : List UInt8 := List.replicate (k - (decDigits x).length) 48 ++ decDigits x
theorem nDl (n k : Nat) (Y : 0 < k) : nDigits n <= k ↔ n < 10 ^ k := by
 constructor
 ·intro h
  exact Nat.lt_of_lt_of_le (lt_pow_nDigits n) (Nat.pow_le_pow_right (by omega) h)
 ·intro h
  induction n using Nat.strongRecOn generalizing k with
  | _ n ih =>
    by_cases h1 : n < 10
    ·rw [nDigits_small h1]; exact Y
    ·rw [nDigits_big h1]
     obtain ⟨j, rfl⟩ : ∃ j, k = j + 1 := ⟨k - 1, by omega⟩;rw [Nat.pow_succ] at h;have Z : 0 < j := by
      rcases Nat.eq_zero_or_pos j with e | e
      ·subst e; simp at h; omega
      ·exact e
     have := ih (n / 10) (by omega) j Z (by omega);omega
theorem ldD (n k : Nat) (Z : 0 < k) : (decDigits n).length <= k ↔ n < 10 ^ k := by
 rw [decDigits_length]; exact nDl n k Z
theorem dre (j : Nat) (l : List UInt8) : dval (List.replicate j 48 ++ l) = dval l := by
 rw [dad];have : dval (List.replicate j 48) = 0 := by
  induction j with
  | zero => rfl
  | succ j ih => rw [List.replicate_succ, dcs, ih]; simp
 rw [this]; simp
theorem plh (k x : Nat) (Z : 0 < k) (h : x < 10 ^ k) : (pad k x).length = k := by
 have := (ldD x k Z).2 h;simp [pad]; omega
theorem pdl (k x : Nat) : dval (pad k x) = x := by
 unfold pad; rw [dre, ddD]
theorem pdg (k x : Nat) : ∀ c ∈ pad k x, isDig c := by
 intro c Z;unfold pad at Z;simp only [List.mem_append, List.mem_replicate] at Z;rcases Z with ⟨_, rfl⟩ | Z
 ·decide
 ·exact dDd x c Z
theorem dc0 (h k x : Nat) (V : 0 < h) (U : 0 < k) (hx : x < 10 ^ k) : decDigits (h * 10 ^ k + x) = decDigits h ++ pad k x := by
 have S : dval (decDigits h ++ pad k x) = h * 10 ^ k + x := by
  rw [dad, ddD, pdl, plh k x U hx]
 rw [<- S];refine de0 _ ?_ ?_ ?_
 ·intro c Z
  simp only [List.mem_append] at Z;rcases Z with Z | Z
  ·exact dDd h c Z
  ·exact pdg k x c Z
 ·simp [dDn]
 ·intro c r e Y
  obtain ⟨c', Q, X, R, _⟩ := dDp h V;rw [X] at e;simp only [List.cons_append, List.cons.injEq] at e;rw [<- e.1] at Y;omega
def lval (B : Nat) : List Nat -> Nat
 | [] => 0
 | x :: xs => x + B * lval B xs
theorem lsc (B : Nat) (l : List Nat) (x : Nat) : lval B (l ++ [x]) = lval B l + x * B ^ l.length := by
 induction l with
 | nil => simp [lval]
 | cons y l ih => simp only [List.cons_append, lval, ih, List.length_cons, Nat.pow_succ]; grind
theorem lad (B : Nat) (l r : List Nat) : lval B (l ++ r) = lval B l + B ^ l.length * lval B r := by
 induction l with
 | nil => simp [lval]
 | cons y l ih => simp only [List.cons_append, lval, ih, List.length_cons, Nat.pow_succ]; grind
theorem llt (B : Nat) (l : List Nat) (h : ∀ x ∈ l, x < B) : lval B l < B ^ l.length := by
 induction l with
 | nil => simp [lval]
 | cons x l ih =>
   have hx := h x (by simp);have Z := ih (fun y hy => h y (by simp [hy]));simp only [lval, List.length_cons, Nat.pow_succ];have : B * (lval B l + 1) <= B * B ^ l.length := Nat.mul_le_mul_left _ Z;rw [Nat.mul_comm (B ^ l.length) B];rw [Nat.mul_add] at this;omega
def lm (B n : Nat) : List Nat := if _h : n = 0 \/ B < 2 then [] else n % B :: lm B (n / B)
termination_by n
decreasing_by exact Nat.div_lt_self (by omega) (by omega)
theorem lzo (B : Nat) : lm B 0 = [] := by rw [lm, dif_pos (Or.inl rfl)]
theorem lps (B n : Nat) (Z : 2 <= B) (h : 0 < n) : lm B n = n % B :: lm B (n / B) := by
 rw [lm, dif_neg (by omega)]
theorem llm (B n : Nat) (Z : 2 <= B) : lval B (lm B n) = n := by
 induction n using Nat.strongRecOn with
 | _ n ih =>
   rcases Nat.eq_zero_or_pos n with rfl | h
   ·simp [lzo, lval]
   ·rw [lps B n Z h]
    simp only [lval];rw [ih (n / B) (Nat.div_lt_self h Z)];exact Nat.mod_add_div n B
theorem lm_lt (B n : Nat) (Z : 2 <= B) : ∀ x ∈ lm B n, x < B := by
 induction n using Nat.strongRecOn with
 | _ n ih =>
   rcases Nat.eq_zero_or_pos n with rfl | h
   ·simp [lzo]
   ·rw [lps B n Z h]
    intro x hx;simp only [List.mem_cons] at hx;rcases hx with rfl | hx
    ·exact Nat.mod_lt _ (by omega)
    ·exact ih (n / B) (Nat.div_lt_self h Z) x hx
theorem lnn (B n : Nat) (Z : 2 <= B) (h : 0 < n) : lm B n ≠ [] := by rw [lps B n Z h]; simp
def dropZ (l : List Nat) : List Nat := (l.reverse.dropWhile (· == 0)).reverse
theorem db0 (l : List Nat) : dropZ (l ++ [0]) = dropZ l := by simp [dropZ]
theorem dZs (l : List Nat) (x : Nat) (h : x ≠ 0) : dropZ (l ++ [x]) = l ++ [x] := by simp [dropZ, h]
theorem li0 (B : Nat) (V : 2 <= B) (l : List Nat) (x : Nat) (U : ∀ y ∈ l, y < B) (hx : x < B) (X : 0 < x) :
 lm B (lval B (l ++ [x])) = l ++ [x] := by
 induction l with
 | nil =>
   simp only [List.nil_append, lval, Nat.mul_zero, Nat.add_zero];rw [lps B x V X, Nat.mod_eq_of_lt hx, Nat.div_eq_of_lt hx, lzo]
 | cons y l ih =>
   have hy := U y (by simp);have Y := ih (fun z hz => U z (by simp [hz]));have Z : 0 < lval B (l ++ [x]) := by
    rw [lsc];have : 0 < x * B ^ l.length := Nat.mul_pos X (Nat.pow_pos (by omega));omega
   simp only [List.cons_append, lval];rw [lps B _ V (by have := Nat.mul_pos (show 0 < B by omega) Z; omega), Nat.add_mul_mod_self_left, Nat.mod_eq_of_lt hy,
    Nat.add_mul_div_left _ _ (by omega), Nat.div_eq_of_lt hy, Nat.zero_add, Y]
theorem dZe (B : Nat) (X : 2 <= B) (l : List Nat) (Z : ∀ y ∈ l, y < B) : dropZ l = lm B (lval B l) := by
 generalize Y : l.length = n
 induction n generalizing l with
 | zero => obtain rfl := List.length_eq_zero_iff.1 Y; simp [dropZ, lval, lzo]
 | succ n ih =>
   rcases List.eq_nil_or_concat l with rfl | ⟨L, b, rfl⟩
   ·simp at Y
   ·rw [List.concat_eq_append] at *
    by_cases hb : b = 0
    ·subst hb
     rw [db0, lsc, Nat.zero_mul, Nat.add_zero];exact ih L (fun y hy => Z y (by simp [hy])) (by simp at Y; omega)
    ·rw [dZs L b hb, li0 B X L b (fun y hy => Z y (by simp [hy])) (Z b (by simp)) (by omega)]
theorem lc0 (B n : Nat) (Z : 2 <= B) (L : List Nat) : lm B n ≠ L ++ [0] := by
 intro h;have Y : lm B (lval B (lm B n)) = dropZ (lm B n) := (dZe B Z _ (lm_lt B n Z)).symm;rw [llm B n Z, h, db0] at Y;have V : (dropZ L).length <= L.length := by
  unfold dropZ;rw [List.length_reverse];exact Nat.le_trans (List.dropWhile_sublist _).length_le (by simp)
 have X := congrArg List.length Y;simp at X;omega
theorem lij (B : Nat) (Z : 2 <= B) {a b : Nat} (h : lm B a = lm B b) : a = b := by
 rw [<- llm B a Z, h, llm B b Z]
theorem lll (B n : Nat) (Z : 2 <= B) : n < B ^ (lm B n).length := by
 have := llt B (lm B n) (lm_lt B n Z);rwa [llm B n Z] at this
theorem llg (B n : Nat) (Z : 2 <= B) (h : 0 < n) : B ^ ((lm B n).length - 1) <= n := by
 rcases List.eq_nil_or_concat (lm B n) with e | ⟨L, b, e⟩
 ·exact absurd e (lnn B n Z h)
 ·rw [List.concat_eq_append] at e
  have Y : b ≠ 0 := fun Y => lc0 B n Z L (by rw [e, Y])
  have X := llm B n Z;rw [e, lsc] at X;rw [e];simp only [List.length_append, List.length_cons, List.length_nil, Nat.add_sub_cancel];have : 1 * B ^ L.length <= b * B ^ L.length := Nat.mul_le_mul_right _ (by omega);omega
theorem la0 (B n k : Nat) (X : 2 <= B) (h : n < B ^ k) : (lm B n).length <= k := by
 rcases Nat.eq_zero_or_pos n with rfl | Z
 ·simp [lzo]
 ·have := llg B n X Z
  have Y := Nat.lt_of_le_of_lt this h;have := (Nat.pow_lt_pow_iff_right (show 1 < B by omega)).1 Y;omega
theorem llo (B a b : Nat) (Z : 2 <= B) (h : (lm B a).length < (lm B b).length) : a < b := by
 have X := lll B a Z;rcases Nat.eq_zero_or_pos b with rfl | Y
 ·simp [lzo] at h
 ·have V := llg B b Z Y
  have := Nat.pow_le_pow_right (show 0 < B by omega) (show (lm B a).length <= (lm B b).length - 1 by omega);omega
theorem lb0 (B : Nat) (a b : List Nat) (i : Nat) (Z : ∀ x ∈ a, x < B)
 (M : i < a.length) (Q : i < b.length) (R : a.drop (i + 1) = b.drop (i + 1)) (O : a[i] < b[i]) : lval B a < lval B b := by
 have X : a = a.take i ++ (a[i] :: a.drop (i + 1)) := by rw [List.getElem_cons_drop, List.take_append_drop]
 have V : b = b.take i ++ (b[i] :: b.drop (i + 1)) := by rw [List.getElem_cons_drop, List.take_append_drop]
 have Y : (a.take i).length = i := by simp; omega
 have lb : (b.take i).length = i := by simp; omega
 have U : lval B a = lval B (a.take i) + B ^ i * (a[i] + B * lval B (a.drop (i + 1))) := by
  conv => lhs; rw [X]
  rw [lad, Y]; rfl
 have S : lval B b = lval B (b.take i) + B ^ i * (b[i] + B * lval B (b.drop (i + 1))) := by
  conv => lhs; rw [V]
  rw [lad, lb]; rfl
 have N : lval B (a.take i) < B ^ i := by
  have := llt B (a.take i) (fun x hx => Z x (List.mem_of_mem_take hx));rwa [Y] at this
 rw [U, S, <- R];generalize B * lval B (a.drop (i + 1)) = t;have : B ^ i * (a[i] + t + 1) <= B ^ i * (b[i] + t) := Nat.mul_le_mul_left _ (by omega);rw [Nat.mul_add _ _ 1] at this;omega
def IS (n : Int) : ByteArray := ⟨(itoa n).toArray⟩
theorem Ilt (n : Int) : (IS n).data.toList = itoa n := by simp [IS]
theorem Ise (n : Int) : (IS n).size = (itoa n).length := by simp [IS, ByteArray.size]
theorem bet {a b : ByteArray} (h : a.data.toList = b.data.toList) : a = b := ByteArray.ext (Array.toList_inj.1 h)
theorem ia0 {n : Int} (h : n < 0) : itoa n = 45 :: decDigits n.natAbs := by rw [itoa, if_pos h]
theorem ing {n : Int} (h : 0 <= n) : itoa n = decDigits n.natAbs := by
 rw [itoa, if_neg (by omega)]; congr 1; omega
theorem ib0 (n : Nat) : itoa (n : Int) = decDigits n := by rw [ing (by omega)]; simp
theorem dhd (n : Nat) : ∃ c r, decDigits n = c :: r /\ isDig c := by
 cases h : decDigits n with
 | nil => exact absurd h (dDn n)
 | cons c r => exact ⟨c, r, rfl, dDd n c (by rw [h]; simp)⟩
theorem inn (n : Int) : itoa n ≠ [] := by
 by_cases h : n < 0
 ·rw [ia0 h]; simp
 ·rw [ing (by omega)]; exact dDn _
theorem ilp (n : Int) : 0 < (itoa n).length := List.length_pos_iff.2 (inn n)
theorem ihd (n : Int) : (n < 0 /\ ∃ r, itoa n = 45 :: r) \/ (0 <= n /\ ∃ c r, itoa n = c :: r /\ isDig c) := by
 by_cases h : n < 0
 ·exact .inl ⟨h, _, ia0 h⟩
 ·refine .inr ⟨by omega, ?_⟩
  rw [ing (by omega)]; exact dhd _
theorem dn4 {c : UInt8} (h : isDig c) : c ≠ 45 := by
 intro e; subst e; revert h; decide
theorem dk0 {c : UInt8} (h : isDig c) : c ≠ 47 := by
 intro e; subst e; revert h; decide
theorem ihM (n : Int) : hasPrefix (itoa n) [45] = decide (n < 0) := by
 rcases ihd n with ⟨h, r, e⟩ | ⟨h, c, r, e, X⟩
 ·rw [e]; simp [hasPrefix, h]
 ·rw [e]
  have Z := dn4 X;have : ¬ n < 0 := by omega
  have Y : (45 == c) = false := by simpa using fun e => Z (Eq.symm e)
  simp only [hasPrefix, this, decide_false, List.isPrefixOf, Y, Bool.false_and]
theorem in4 (n : Int) : ∀ c ∈ itoa n, c ≠ 47 := by
 intro c Z;by_cases h : n < 0
 ·rw [ia0 h] at Z
  simp only [List.mem_cons] at Z;rcases Z with rfl | Z
  ·decide
  ·exact dk0 (dDd _ c Z)
 ·rw [ing (by omega)] at Z
  exact dk0 (dDd _ c Z)
theorem iij {a b : Int} (h : itoa a = itoa b) : a = b := by
 rcases ihd a with ⟨Z, r, e⟩ | ⟨Z, c, r, e, X⟩ <;> rcases ihd b with ⟨Y, s, f⟩ | ⟨Y, d, s, f, V⟩
 ·rw [ia0 Z, ia0 Y] at h
  have := dDi (List.cons.inj h).2;omega
 ·rw [e, f] at h
  exact absurd (List.cons.inj h).1.symm (dn4 V)
 ·rw [e, f] at h
  exact absurd (List.cons.inj h).1 (dn4 X)
 ·rw [ing Z, ing Y] at h
  have := dDi h;omega
theorem itoa_zero : itoa 0 = [48] := by rw [ing (by omega)]; exact dDz
theorem itoa_one : itoa 1 = [49] := by rw [ing (by omega)]; show decDigits 1 = _; rw [decDigits_one (by omega)]; rfl
theorem IS_zero : IS 0 = ⟨#[48]⟩ := by unfold IS; rw [itoa_zero]
theorem Ioe : IS 1 = ⟨#[49]⟩ := by unfold IS; rw [itoa_one]
theorem ii0 (n : Int) : (itoa n == [48]) = decide (n = 0) := by
 by_cases h : n = 0
 ·subst h; rw [itoa_zero]; rfl
 ·have : itoa n ≠ [48] := fun e => h (iij (e.trans itoa_zero.symm))
  simp [this, h]
theorem ie4 (n : Int) : (itoa n == [49]) = decide (n = 1) := by
 by_cases h : n = 1
 ·subst h; rw [itoa_one]; rfl
 ·have : itoa n ≠ [49] := fun e => h (iij (e.trans itoa_one.symm))
  simp [this, h]
theorem inA (n : Int) : itoa n = if n < 0 then 45 :: decDigits n.natAbs else decDigits n.natAbs := by
 by_cases h : n < 0
 ·rw [if_pos h, ia0 h]
 ·rw [if_neg h, ing (by omega)]
theorem idn {n : Int} (h : n < 0) : (itoa n).drop 1 = itoa (-n) := by
 rw [ia0 h, ing (by omega)]; simp
theorem icn {n : Int} (h : 0 < n) : 45 :: itoa n = itoa (-n) := by
 rw [ia0 (show -n < 0 by omega), ing (by omega)]; simp
theorem itm (n : Int) : trimPrefix (itoa n) [45] = decDigits n.natAbs := by
 unfold trimPrefix;rw [ihM];by_cases h : n < 0
 ·rw [if_pos (by simpa using h), ia0 h]; simp
 ·rw [if_neg (by simpa using h), ing (by omega)]
theorem iln (n : Int) : (itoa n).length = (if n < 0 then 1 else 0) + nDigits n.natAbs := by
 rw [inA];split
 ·simp [decDigits_length]; omega
 ·simp [decDigits_length]
theorem ill {n : Int} {k : Nat} (Z : 0 < k) (h : n.natAbs < 10 ^ k) : (itoa n).length <= k + 1 := by
 rw [iln];have := (nDl n.natAbs k Z).2 h;split <;> omega
theorem nAl {n : Int} {k : Nat} (Z : 0 < k) (h : (itoa n).length <= k) : n.natAbs < 10 ^ k := by
 rw [iln] at h;exact (nDl n.natAbs k Z).1 (by split at h <;> omega)
theorem dFd (l : List UInt8) (h : ∀ c ∈ l, isDig c) : ∀ Z, decFrom Z l = some (Z * 10 ^ l.length + dval l) := by
 induction l with
 | nil => intro Z; simp [decFrom, dval]
 | cons c r ih =>
   intro Z;have Y := h c (by simp);have X : digitVal c = some (c.toNat - 48) := by unfold digitVal; rw [if_pos (show 48 <= c.toNat /\ c.toNat <= 57 from Y)]
   simp only [decFrom, X];rw [ih (fun x hx => h x (by simp [hx])), dcs, List.length_cons, Nat.pow_succ];congr 1;grind
theorem dNd {l : List UInt8} (h : ∀ c ∈ l, isDig c) (Z : l ≠ []) : decNat l = some (dval l) := by
 unfold decNat;rw [if_neg (by simpa using Z), dFd l h];simp
theorem aia (n : Int) : atoi (itoa n) = some n := by
 rcases ihd n with ⟨h, r, e⟩ | ⟨h, c, r, e, Z⟩
 ·rw [ia0 h]
  simp only [atoi, beq_self_eq_true, if_true];rw [dNd (dDd _) (dDn _), ddD];simp; omega
 ·have Y := dn4 Z
  have X : c ≠ 43 := by intro e; subst e; revert Z; decide
  have V : ∀ x ∈ c :: r, isDig x := by
   rw [<- e, ing h]; exact dDd _
  rw [e];simp only [atoi, beq_iff_eq, Y, X, if_false];rw [dNd V (by simp), <- e, ing h, ddD];simp; omega
theorem pUM (M : Nat) (l : List UInt8) (h : ∀ c ∈ l, isDig c) : ∀ Z, Z * 10 ^ l.length + dval l <= M -> M <= 18446744073709551615 ->
 parseUintM M Z l = .ok (Z * 10 ^ l.length + dval l) := by
 induction l with
 | nil => intro Z _ _; simp [parseUintM, dval]
 | cons c r ih =>
   intro Z X V;have U := h c (by simp);rw [dcs, List.length_cons, Nat.pow_succ] at X;have Y : 1 <= 10 ^ r.length := Nat.one_le_pow _ _ (by omega);have e : Z * (10 ^ r.length * 10) + ((c.toNat - 48) * 10 ^ r.length + dval r) = (Z * 10 + (c.toNat - 48)) * 10 ^ r.length + dval r := by grind
   rw [e] at X;have S : (Z * 10 + (c.toNat - 48)) * 1 <= (Z * 10 + (c.toNat - 48)) * 10 ^ r.length := Nat.mul_le_mul_left _ Y;simp only [parseUintM];rw [if_pos (show 48 <= c.toNat /\ c.toNat <= 57 from U), if_neg (by omega), if_neg (by omega), ih (fun x hx => h x (by simp [hx])) _ X V, dcs, List.length_cons, Nat.pow_succ, e]
theorem pUB {l : List UInt8} (h : ∀ c ∈ l, isDig c) (Z : l ≠ []) (Y : l.length <= 9) : parseUintB 64 l = .ok (dval l) := by
 unfold parseUintB;rw [if_neg Z, pUM _ l h 0 ?_ (by decide)]
 ·simp
 ·have X := dlt l h
  have V : 10 ^ l.length <= 10 ^ 9 := Nat.pow_le_pow_right (by omega) Y;omega
def cBB (l : List UInt8) : Bool :=
 let s := trimPrefix l [45]
 !s.isEmpty && !(s.head? == some 48 && (1 < s.length || hasPrefix l [45])) && s.all (fun c => decide (isDig c))
theorem cBi (n : Int) : cBB (itoa n) = true := by
 unfold cBB;rw [itm, ihM];have U := dDn n.natAbs;have V : (decDigits n.natAbs).all (fun c => decide (isDig c)) = true := by
  rw [List.all_eq_true]; intro c Y; simpa using dDd _ c Y
 rcases Nat.eq_zero_or_pos n.natAbs with X | X
 ·have : n = 0 := by omega
  subst this;simp [dDz];decide
 ·obtain ⟨c, r, e, Y, _⟩ := dDp n.natAbs X
  have Z : c ≠ 48 := by intro e; subst e; revert Y; decide
  simp only [V, Bool.and_true];rw [e];simp [Z]
theorem cBv {l : List UInt8} (h : cBB l = true) : ∃ n : Int, l = itoa n := by
 unfold cBB at h;simp only [Bool.and_eq_true, Bool.not_eq_true', List.isEmpty_eq_false_iff] at h;obtain ⟨⟨R, Z⟩, Q⟩ := h;have N : ∀ c ∈ trimPrefix l [45], isDig c := by
  rw [List.all_eq_true] at Q; intro c U; simpa using Q c U
 have L : ∀ c r, trimPrefix l [45] = c :: r -> c.toNat = 48 -> r = [] := by
  intro c r e V;have U : c = 48 := UInt8.toNat_inj.1 (by rw [V]; rfl);subst U;rw [e] at Z;simp at Z;cases r with
  | nil => rfl
  | cons d r => simp at Z
 have Y := de0 _ N R L;cases hm : hasPrefix l [45] with
 | true =>
   obtain ⟨r, M⟩ : ∃ r, l = 45 :: r := by
    cases l with
    | nil => simp [hasPrefix] at hm
    | cons c r =>
      simp [hasPrefix] at hm;exact ⟨r, by rw [<- hm]⟩
   subst M;have S : trimPrefix (45 :: r) [45] = r := by simp [trimPrefix, hasPrefix]
   rw [S] at Y Z R;have O : 0 < dval r := by
    rcases Nat.eq_zero_or_pos (dval r) with X | X
    ·rw [X, dDz] at Y
     rw [<- Y] at Z;simp [hasPrefix] at Z
    ·exact X
   refine ⟨-(dval r : Int), ?_⟩;rw [ia0 (by omega)];simp [Y]
 | false =>
   have S : trimPrefix l [45] = l := by simp [trimPrefix, hm]
   rw [S] at Y;exact ⟨(dval l : Int), by rw [ib0, Y]⟩
theorem cBd (l r : List UInt8) (Y : ∀ c ∈ l, isDig c) (X : ∀ c ∈ r, isDig c) (h : l.length = r.length) :
 compareBytes l r = if dval l < dval r then -1 else if dval r < dval l then 1 else 0 := by
 induction l generalizing r with
 | nil =>
   obtain rfl := List.length_eq_zero_iff.1 h.symm;simp [compareBytes, dval]
 | cons c l ih =>
   cases r with
   | nil => simp at h
   | cons d r =>
     have V := Y c (by simp);have U := X d (by simp);have Z : l.length = r.length := by simpa using h
     have R := dlt l (fun x hx => Y x (by simp [hx]));have S := dlt r (fun x hx => X x (by simp [hx]));rw [<- Z] at S;simp only [compareBytes];rw [ih r (fun x hx => Y x (by simp [hx])) (fun x hx => X x (by simp [hx])) Z, dcs, dcs, <- Z];generalize 10 ^ l.length = P at *;unfold isDig at V U;have lt_iff : ∀ a b : UInt8, a < b ↔ a.toNat < b.toNat := fun a b => UInt8.lt_iff_toNat_lt;simp only [lt_iff];rcases Nat.lt_trichotomy c.toNat d.toNat with e | e | e
     ·have : (c.toNat - 48 + 1) * P <= (d.toNat - 48) * P := Nat.mul_le_mul_right _ (by omega)
      rw [Nat.add_mul] at this;rw [if_pos e, if_pos (by omega)]
     ·rw [if_neg (by omega), if_neg (by omega), e]
      congr 1
      ·simp
      ·congr 1
       simp
     ·have : (d.toNat - 48 + 1) * P <= (c.toNat - 48) * P := Nat.mul_le_mul_right _ (by omega)
      rw [Nat.add_mul] at this;rw [if_neg (by omega), if_pos e, if_neg (by omega), if_pos (by omega)]
def RL (q : Rat) : List UInt8 := if q.den = 1 then itoa q.num else itoa q.num ++ 47 :: decDigits q.den
def RS (q : Rat) : ByteArray := ⟨(RL q).toArray⟩
theorem Rlt (q : Rat) : (RS q).data.toList = RL q := by simp [RS]
theorem Rse (q : Rat) : (RS q).size = (RL q).length := by simp [RS, ByteArray.size]
theorem Rod {q : Rat} (h : q.den = 1) : RL q = itoa q.num := by rw [RL, if_pos h]
theorem Rdn {q : Rat} (h : q.den ≠ 1) : RL q = itoa q.num ++ 47 :: decDigits q.den := by rw [RL, if_neg h]
theorem i4n {l : List UInt8} (h : ∀ c ∈ l, c ≠ 47) : indexByte l 47 = -1 := by
 induction l with
 | nil => rfl
 | cons c r ih =>
   have Z := h c (by simp);simp [indexByte, Z, ih (fun x hx => h x (by simp [hx]))]
theorem i4s {l r : List UInt8} (h : ∀ c ∈ l, c ≠ 47) : indexByte (l ++ 47 :: r) 47 = l.length := by
 induction l with
 | nil => simp [indexByte]
 | cons c l ih =>
   have Z := h c (by simp);have Y := ih (fun x hx => h x (by simp [hx]));simp only [List.cons_append, indexByte, beq_iff_eq, Z, if_false, Y, List.length_cons];rw [if_neg (by simp)];simp
theorem Rc0 {p q : Rat} (h : RL p = RL q) : p = q := by
 have Z := in4 p.num;have Y := in4 q.num;by_cases hp : p.den = 1 <;> by_cases hq : q.den = 1
 ·rw [Rod hp, Rod hq] at h
  exact Rat.ext (iij h) (by rw [hp, hq])
 ·rw [Rod hp, Rdn hq] at h
  exact absurd rfl (Z 47 (by rw [h]; simp))
 ·rw [Rdn hp, Rod hq] at h
  exact absurd rfl (Y 47 (by rw [<- h]; simp))
 ·rw [Rdn hp, Rdn hq] at h
  have X := i4s (r := decDigits p.den) Z;have V := i4s (r := decDigits q.den) Y;rw [h, V] at X;have S : (itoa p.num).length = (itoa q.num).length := by omega
  have := List.append_inj h S;have U := dDi (List.cons.inj this.2).2;exact Rat.ext (iij this.1) U
theorem Rij {p q : Rat} (h : RS p = RS q) : p = q := Rc0 (by rw [<- Rlt, h, Rlt])
theorem Rnn (q : Rat) : RL q ≠ [] := by
 unfold RL;split
 ·exact inn _
 ·simp
theorem Rlp (q : Rat) : 0 < (RL q).length := List.length_pos_iff.2 (Rnn q)
theorem Rzo : RL 0 = [48] := by rw [Rod (by rfl)]; exact itoa_zero
theorem Roe : RL 1 = [49] := by rw [Rod (by rfl)]; exact itoa_one
theorem RS_zero : RS 0 = ⟨#[48]⟩ := by unfold RS; rw [Rzo]
theorem Rf0 : RS 1 = ⟨#[49]⟩ := by unfold RS; rw [Roe]
theorem Rit (n : Int) : RL (n : Rat) = itoa n := by rw [Rod (by simp)]; simp
theorem Rbq (p q : Rat) : (RL p == RL q) = decide (p = q) := by
 by_cases h : p = q
 ·subst h; simp
 ·have : RL p ≠ RL q := fun e => h (Rc0 e)
  simp [this, h]
theorem Re0 (q : Rat) : (RL q == [48]) = decide (q = 0) := by rw [<- Rzo, Rbq]
theorem Rd0 (q : Rat) : (RL q == [49]) = decide (q = 1) := by rw [<- Roe, Rbq]
theorem Rng (q : Rat) (h : q.num < 0) : (RL q).drop 1 = RL (-q) := by
 have e := idn h;have Z : itoa q.num = 45 :: (itoa q.num).drop 1 := by rw [ia0 h]; simp
 by_cases hd : q.den = 1
 ·rw [Rod hd, Rod (by rw [Rat.neg_den]; exact hd), Rat.neg_num, e]
 ·rw [Rdn hd, Rdn (by rw [Rat.neg_den]; exact hd), Rat.neg_num, Rat.neg_den, <- e]
  conv => lhs; rw [Z]
  simp
theorem Rh0 (q : Rat) (h : 0 < q.num) : 45 :: RL q = RL (-q) := by
 have e := icn h;by_cases hd : q.den = 1
 ·rw [Rod hd, Rod (by rw [Rat.neg_den]; exact hd), Rat.neg_num, e]
 ·rw [Rdn hd, Rdn (by rw [Rat.neg_den]; exact hd), Rat.neg_num, Rat.neg_den, <- e]
  simp
theorem num_lt_zero_iff {q : Rat} : q.num < 0 ↔ q < 0 := by
 have := @Rat.num_nonneg q;have Y := @Rat.not_lt q 0;constructor
 ·intro h
  refine Classical.byContradiction fun hc => ?_
  have := this.2 (Rat.not_lt.1 hc);omega
 ·intro h
  refine Classical.byContradiction fun hc => ?_
  have Z := this.1 (by omega);exact Rat.not_lt.2 Z h
theorem num_pos_iff {q : Rat} : 0 < q.num ↔ 0 < q := by
 have Y := @Rat.num_nonneg q;have X := @Rat.num_eq_zero q;constructor
 ·intro h
  refine Classical.byContradiction fun hc => ?_
  have V := Rat.not_lt.1 hc;have Z : q = 0 := Rat.le_antisymm V (Y.1 (by omega));have := X.2 Z;omega
 ·intro h
  refine Classical.byContradiction fun hc => ?_
  have V := Y.2 (Rat.le_of_lt h);have Z : q = 0 := X.1 (by omega);rw [Z] at h;exact Rat.lt_irrefl h
theorem cia (n : Int) : indexByte (itoa n) 47 = -1 := i4n (in4 n)
theorem Rio {q : Rat} (h : q.den = 1) : indexByte (RL q) 47 = -1 := by rw [Rod h]; exact cia _
theorem Rid {q : Rat} (h : q.den ≠ 1) : indexByte (RL q) 47 = (itoa q.num).length := by rw [Rdn h]; exact i4s (in4 _)
theorem Rb0 (n : Int) (d : Nat) (Z : d ≠ 0) : RL (mkRat n d) =
 if d / Nat.gcd n.natAbs d = 1 then itoa (n / (Nat.gcd n.natAbs d : Nat)) else itoa (n / (Nat.gcd n.natAbs d : Nat)) ++ 47 :: decDigits (d / Nat.gcd n.natAbs d) := by
 unfold RL;rw [Rat.num_mkRat, Rat.den_mkRat, if_neg Z, if_neg Z, Nat.gcd_comm]
def Sz (k : Nat) (q : Rat) : Prop := q.num.natAbs < 10 ^ k /\ q.den < 10 ^ k
theorem Sz.mono {j k : Nat} {q : Rat} (h : Sz j q) (Z : j <= k) : Sz k q :=
 ⟨Nat.lt_of_lt_of_le h.1 (Nat.pow_le_pow_right (by omega) Z), Nat.lt_of_lt_of_le h.2 (Nat.pow_le_pow_right (by omega) Z)⟩
theorem Sz.mkRat {k : Nat} {n : Int} {d : Nat} (Z : d ≠ 0) (Q : n.natAbs < 10 ^ k) (X : d < 10 ^ k) : Sz k (mkRat n d) := by
 unfold Sz;rw [Rat.num_mkRat, Rat.den_mkRat, if_neg Z, if_neg Z];have S : 0 < Nat.gcd d n.natAbs := Nat.gcd_pos_of_pos_left _ (by omega);refine ⟨?_, Nat.lt_of_le_of_lt (Nat.div_le_self _ _) X⟩;obtain ⟨m, Y⟩ := Nat.gcd_dvd_right d n.natAbs;have R : n = ((Nat.gcd d n.natAbs : Nat) : Int) * (n.sign * m) := by
  conv => lhs; rw [<- Int.sign_mul_natAbs n, Y]
  push_cast;grind
 have hq : n / ((Nat.gcd d n.natAbs : Nat) : Int) = n.sign * m := Int.ediv_eq_of_eq_mul_right (by omega) R;rw [hq, Int.natAbs_mul];have V : n.sign.natAbs <= 1 := by
  rcases Int.lt_trichotomy n 0 with h | h | h
  ·rw [Int.sign_eq_neg_one_of_neg h]; decide
  ·subst h; decide
  ·rw [Int.sign_eq_one_of_pos h]; decide
 have O : m <= n.natAbs := by
  conv => rhs; rw [Y]
  exact Nat.le_mul_of_pos_left _ S
 have U : n.sign.natAbs * m <= 1 * m := Nat.mul_le_mul_right _ V;simp at U ⊢;omega
theorem Sz.zero (k : Nat) (Z : 0 < k) : Sz k 0 := ⟨Nat.pow_pos (by omega), by
 have : 10 ^ 1 <= 10 ^ k := Nat.pow_le_pow_right (by omega) Z;show 1 < 10 ^ k;omega⟩
theorem Sz.neg {k : Nat} {q : Rat} (h : Sz k q) : Sz k (-q) := by
 unfold Sz at *;rw [Rat.neg_num, Rat.neg_den, Int.natAbs_neg]; exact h
theorem pal {a b k j : Nat} (Z : a < 10 ^ k) (Y : b < 10 ^ j) : a * b < 10 ^ (k + j) := by
 rw [Nat.pow_add];rcases Nat.eq_zero_or_pos b with rfl | X
 ·rw [Nat.mul_zero]; exact Nat.mul_pos (Nat.pow_pos (by omega)) (Nat.pow_pos (by omega))
 ·exact Nat.mul_lt_mul_of_lt_of_le Z (Nat.le_of_lt Y) (Nat.pow_pos (by omega))
theorem Sz.mul {j k : Nat} {p q : Rat} (Z : Sz j p) (hq : Sz k q) : Sz (j + k) (p * q) := by
 rw [Rat.mul_def'];refine Sz.mkRat (Nat.mul_ne_zero p.den_nz q.den_nz) ?_ (pal Z.2 hq.2);rw [Int.natAbs_mul]; exact pal Z.1 hq.1
theorem Sz.add {j k : Nat} {p q : Rat} (Z : Sz j p) (hq : Sz k q) : Sz (j + k + 1) (p + q) := by
 rw [Rat.add_def'];refine Sz.mkRat (Nat.mul_ne_zero p.den_nz q.den_nz) ?_ ?_
 ·have Y : (p.num * q.den).natAbs < 10 ^ (j + k) := by rw [Int.natAbs_mul]; exact pal Z.1 (by simpa using hq.2)
  have X : (q.num * p.den).natAbs < 10 ^ (j + k) := by rw [Int.natAbs_mul, Nat.add_comm j k]; exact pal hq.1 (by simpa using Z.2)
  have V := Int.natAbs_add_le (p.num * q.den) (q.num * p.den);rw [Nat.pow_succ]; omega
 ·have := pal Z.2 hq.2
  rw [Nat.pow_succ]; omega
theorem Sz.sub {j k : Nat} {p q : Rat} (Z : Sz j p) (hq : Sz k q) : Sz (j + k + 1) (p - q) := by
 rw [Rat.sub_eq_add_neg]; exact Z.add hq.neg
theorem Sz.inv {k : Nat} {q : Rat} (h : Sz k q) (U : 0 < k) : Sz k q⁻¹ := by
 by_cases h0 : q = 0
 ·subst h0; rw [Rat.inv_zero]; exact Sz.zero k U
 ·have S : q.num ≠ 0 := fun e => h0 (Rat.num_eq_zero.1 e)
  rw [Rat.inv_def];have e : Rat.divInt (q.den : Int) q.num = _root_.mkRat (q.num.sign * (q.den : Int)) q.num.natAbs := by
   rcases Int.lt_trichotomy q.num 0 with Z | Z | Z
   ·rw [Int.sign_eq_neg_one_of_neg Z]
    obtain ⟨m, Y⟩ : ∃ m : Nat, q.num = -(m : Int) := ⟨q.num.natAbs, by omega⟩;rw [Y, Rat.divInt_neg'];simp [Rat.divInt_ofNat, Int.natAbs_neg]
   ·exact absurd Z S
   ·rw [Int.sign_eq_one_of_pos Z]
    obtain ⟨m, Y⟩ : ∃ m : Nat, q.num = (m : Int) := ⟨q.num.natAbs, by omega⟩;rw [Y];simp [Rat.divInt_ofNat]
  rw [e];refine Sz.mkRat (by omega) ?_ h.1;rw [Int.natAbs_mul];have X : q.num.sign.natAbs <= 1 := by
   rcases Int.lt_trichotomy q.num 0 with Z | Z | Z
   ·rw [Int.sign_eq_neg_one_of_neg Z]; decide
   ·rw [Z]; decide
   ·rw [Int.sign_eq_one_of_pos Z]; decide
  have V : q.num.sign.natAbs * q.den <= 1 * q.den := Nat.mul_le_mul_right _ X;have := h.2;simp at V ⊢;omega
theorem Sz.div {j k : Nat} {p q : Rat} (Y : Sz j p) (hq : Sz k q) (Z : 0 < k) : Sz (j + k) (p / q) := by
 rw [Rat.div_def]; exact Y.mul (hq.inv Z)
theorem Rll {k : Nat} {q : Rat} (Z : 0 < k) (h : Sz k q) : (RL q).length <= 2 * k + 2 := by
 have Y := ill Z h.1;have X := (ldD q.den k Z).2 h.2;unfold RL;split
 ·omega
 ·simp; omega
def B4 : Nat := 10000
theorem ta0 : 2 <= B4 := by decide
def ival : List Int -> Int
 | [] => 0
 | x :: l => x + 10000 * ival l
theorem isc (l : List Int) (x : Int) : ival (l ++ [x]) = ival l + x * 10000 ^ l.length := by
 induction l with
 | nil => simp [ival]
 | cons y l ih =>
   rw [List.cons_append, ival, ih, ival, List.length_cons, Int.pow_succ];grind
theorem il0 (l : List Nat) : ival (l.map fun x : Nat => (x : Int)) = (lval B4 l : Nat) := by
 induction l with
 | nil => simp [ival, lval]
 | cons y l ih =>
   rw [List.map_cons, ival, ih, lval];simp [B4]
theorem ist (l : List Int) (i : Nat) (y : Int) (h : i < l.length) : ival (l.set i y) = ival l + (y - l[i]) * 10000 ^ i := by
 induction l generalizing i with
 | nil => simp at h
 | cons x l ih =>
   cases i with
   | zero => simp [ival]; omega
   | succ i =>
     simp only [List.set_cons_succ, ival, List.getElem_cons_succ];rw [ih i (by simpa using h), Int.pow_succ];grind
theorem ire (n : Nat) : ival (List.replicate n 0) = 0 := by
 induction n with
 | zero => rfl
 | succ n ih => rw [List.replicate_succ, ival, ih]; rfl
theorem ic0 (l : List Int) (k : Nat) (h : k < l.length) : ival (l.take (k + 1)) = ival (l.take k) + l[k] * 10000 ^ k := by
 rw [List.take_succ_eq_append_getElem h, isc, List.length_take, Nat.min_eq_left (by omega)]
theorem lnl {o : List Nat} (h : ∀ z ∈ o, z < B4) : (lval B4 o : Int) < 10000 ^ o.length := by
 have := llt B4 o h;have Z : ((lval B4 o : Nat) : Int) < ((B4 ^ o.length : Nat) : Int) := by exact_mod_cast this
 rw [show ((B4 ^ o.length : Nat) : Int) = (10000 : Int) ^ o.length by rw [Int.natCast_pow]; rfl] at Z;exact Z
def CarryInv (p : List Int) (k : Nat) (over : Int) (o : List Nat) : Prop :=
 o.length = k /\ (∀ z ∈ o, z < B4) /\ (lval B4 o : Int) + over * 10000 ^ k = ival (p.take k) /\ -100000000000000000 <= over /\ over <= 100000000000000000
theorem CarryInv.start (p : List Int) : CarryInv p 0 0 [] := ⟨rfl, by simp, by simp [lval, ival], by decide, by decide⟩
theorem cdt {s n : Int} (Z : n = s % 10000) : 0 <= n /\ n < 10000 /\ s = n + 10000 * (s / 10000) := by omega
theorem CarryInv.step {p : List Int} {k : Nat} {over s : Int} {o : List Nat} (h : CarryInv p k over o) (I : s = over + (p[k]?.getD 0))
 (N : ∀ x ∈ p, -100000000000000000 <= x /\ x <= 100000000000000000) : CarryInv p (k + 1) (s / 10000) (o ++ [(s % 10000).toNat]) := by
 obtain ⟨X, R, Q, K, J⟩ := h;have O := cdt (s := s) rfl;have M : -100000000000000000 <= p[k]?.getD 0 /\ p[k]?.getD 0 <= 100000000000000000 := by
  cases hh : p[k]? with
  | none => simp
  | some x => exact N x (List.mem_of_getElem? hh)
 refine ⟨by simp [X], ?_, ?_, by omega, by omega⟩
 ·intro z Z
  rcases List.mem_append.1 Z with Z | Z
  ·exact R z Z
  ·simp only [List.mem_cons, List.not_mem_nil, or_false] at Z
   unfold B4; omega
 ·rw [lsc, X]
  have V : ((s % 10000).toNat : Int) = s % 10000 := by omega
  have U : ival (p.take (k + 1)) = ival (p.take k) + (p[k]?.getD 0) * 10000 ^ k := by
   rcases Nat.lt_or_ge k p.length with Y | Y
   ·rw [ic0 p k Y, List.getElem?_eq_getElem Y]; rfl
   ·rw [List.take_of_length_le (by omega), List.take_of_length_le (by omega), List.getElem?_eq_none Y]; simp
  have S : ((lval B4 o + (s % 10000).toNat * B4 ^ k : Nat) : Int) = (lval B4 o : Int) + (s % 10000) * 10000 ^ k := by
   rw [Int.natCast_add, Int.natCast_mul, V, Int.natCast_pow]; rfl
  rw [S, U, <- Q, Int.pow_succ];have L := O.2.2;generalize (10000 : Int) ^ k = P at *;generalize s % 10000 = n at *;generalize s / 10000 = m at *;grind
theorem CarryInv.done {p : List Int} {k : Nat} {o : List Nat} {n : Nat} (h : CarryInv p k 0 o) (X : p.length <= k) (V : ival p = n) : dropZ o = lm B4 n := by
 obtain ⟨U, Y, Z, S, R⟩ := h;rw [List.take_of_length_le X, V] at Z;rw [dZe B4 ta0 _ Y];congr 1;simp only [Int.zero_mul, Int.add_zero] at Z;exact_mod_cast Z
theorem CarryInv.nonneg {p : List Int} {k : Nat} {over : Int} {o : List Nat} {n : Nat} (h : CarryInv p k over o) (R : p.length <= k) (Q : ival p = n) : 0 <= over := by
 obtain ⟨X, V, U, O, N⟩ := h;rw [List.take_of_length_le R, Q] at U;have := lnl V;rw [X] at this;rcases Int.lt_or_le over 0 with Z | Y
 ·have S : (0 : Int) < 10000 ^ k := Int.pow_pos (by decide)
  have : over * 10000 ^ k <= (-1) * 10000 ^ k := Int.mul_le_mul_of_nonneg_right (by omega) (Int.le_of_lt S);omega
 ·exact Y
def jl (p q : List Nat) (k : Int) (i : Nat) : List Int :=
 (List.range (max p.length i)).map fun j => ((p[j]?.getD 0 : Nat) : Int) + if j < i then k * ((q[j]?.getD 0 : Nat) : Int) else 0
theorem jlh (p q : List Nat) (k : Int) (i : Nat) : (jl p q k i).length = max p.length i := by simp [jl]
theorem jzo (p q : List Nat) (k : Int) : jl p q k 0 = p.map fun x : Nat => (x : Int) := by
 apply List.ext_getElem
 ·simp [jl]
 ·intro j Y Z
  simp only [jl, List.getElem_map, List.getElem_range];simp at Z;rw [List.getElem?_eq_getElem (by simpa using Z)];simp
theorem jgt (p q : List Nat) (k : Int) (i j : Nat) (h : j < (jl p q k i).length) : (jl p q k i)[j] = ((p[j]?.getD 0 : Nat) : Int) + if j < i then k * ((q[j]?.getD 0 : Nat) : Int) else 0 := by
 simp only [jl, List.getElem_map, List.getElem_range]
theorem jsa (p q : List Nat) (k : Int) (i : Nat) (h : p.length <= i) : (jl p q k i ++ [0]).set i (0 + k * ((q[i]?.getD 0 : Nat) : Int)) = jl p q k (i + 1) := by
 have X : (jl p q k i).length = i := by rw [jlh]; omega
 apply List.ext_getElem
 ·simp [jlh]; omega
 ·intro j Z V
  rw [jgt, List.getElem_set];simp [X] at Z;split
  ·rename_i e; subst e
   rw [List.getElem?_eq_none h]; simp
  ·rename_i e
   have Y : j < i := by omega
   rw [List.getElem_append_left (by omega), jgt];simp only [Y, if_true]
theorem jsi (p q : List Nat) (k : Int) (i : Nat) (h : i < p.length) (y : Int) (hy : y = (p[i] : Int) + k * ((q[i]?.getD 0 : Nat) : Int)) : (jl p q k i).set i y = jl p q k (i + 1) := by
 subst hy;apply List.ext_getElem
 ·simp [jlh]; omega
 ·intro j Z Y
  rw [jgt, List.getElem_set];split
  ·rename_i e; subst e
   rw [if_pos (by omega), List.getElem?_eq_getElem h]; rfl
  ·rename_i e
   rw [jgt];by_cases hji : j < i
   ·rw [if_pos hji, if_pos (by omega)]
   ·rw [if_neg hji, if_neg (by omega)]
theorem jai (p q : List Nat) (k : Int) (i : Nat) (h : i < p.length) (Z : i < (jl p q k i).length) : (jl p q k i)[i] = (p[i] : Int) := by
 rw [jgt, if_neg (by omega), List.getElem?_eq_getElem h]; simp
theorem ijl (p q : List Nat) (k : Int) (i : Nat) (V : i <= q.length) : ival (jl p q k i) = (lval B4 p : Int) + k * (lval B4 (q.take i) : Int) := by
 induction i with
 | zero => rw [jzo, il0]; simp [lval]
 | succ i ih =>
   have hq : i < q.length := by omega
   have e : (lval B4 (q.take (i + 1)) : Int) = (lval B4 (q.take i) : Int) + (q[i] : Int) * 10000 ^ i := by
    rw [List.take_succ_eq_append_getElem hq, lsc, List.length_take, Nat.min_eq_left (by omega), Int.natCast_add, Int.natCast_mul, Int.natCast_pow]; rfl
   have Y : q[i]?.getD 0 = q[i] := by rw [List.getElem?_eq_getElem hq]; rfl
   rcases Nat.lt_or_ge i p.length with h | h
   ·have Z : i < (jl p q k i).length := by rw [jlh]; omega
    rw [<- jsi p q k i h _ rfl, ist _ _ _ Z, jai p q k i h Z, ih (by omega), e, Y];generalize (10000 : Int) ^ i = P;grind
   ·have Z : (jl p q k i).length = i := by rw [jlh]; omega
    have X : (jl p q k i ++ [0])[i]'(by simp [Z]) = 0 := by rw [List.getElem_append_right (by omega)]; simp
    rw [<- jsa p q k i h, ist _ _ _ (by simp [Z]), X, isc, ih (by omega), e, Y];generalize (10000 : Int) ^ i = P;grind
theorem jbd {p q : List Nat} {k : Int} (X : ∀ x ∈ p, x < B4) (hq : ∀ x ∈ q, x < B4) (Y : -10000 <= k /\ k <= 10000) (i : Nat) : ∀ x ∈ jl p q k i, -100010000 <= x /\ x <= 100010000 := by
 intro x hx;simp only [jl, List.mem_map, List.mem_range] at hx;obtain ⟨j, _, rfl⟩ := hx;have V : p[j]?.getD 0 < 10000 := by
  cases hh : p[j]? with
  | none => simp
  | some x => exact X x (List.mem_of_getElem? hh)
 have U : q[j]?.getD 0 < 10000 := by
  cases hh : q[j]? with
  | none => simp
  | some x => exact hq x (List.mem_of_getElem? hh)
 generalize p[j]?.getD 0 = a at *;generalize q[j]?.getD 0 = b at *;have S : k * (b : Int) <= 10000 * 10000 := by
  rcases Int.le_total 0 k with Z | Z
  ·exact Int.mul_le_mul Y.2 (by omega) (by omega) (by omega)
  ·have : k * (b : Int) <= 0 := Int.mul_nonpos_of_nonpos_of_nonneg Z (by omega)
   omega
 have R : -(10000 * 10000) <= k * (b : Int) := by
  rcases Int.le_total 0 k with Z | Z
  ·have : 0 <= k * (b : Int) := Int.mul_nonneg Z (by omega)
   omega
  ·have : (-k) * (b : Int) <= 10000 * 10000 := Int.mul_le_mul (by omega) (by omega) (by omega) (by omega)
   rw [Int.neg_mul] at this;omega
 split <;> omega
def QuoAt (B : Nat) (xs : List Nat) (b i : Nat) (q : List Nat) : Prop := q.length = xs.length /\ (∀ z ∈ q, z < B) /\ lval B (q.drop i) = lval B (xs.drop i) / b
theorem QuoAt.start {B : Nat} (Z : 0 < B) (xs : List Nat) (b : Nat) : QuoAt B xs b xs.length (List.replicate xs.length 0) := by
 refine ⟨by simp, fun z hz => ?_, ?_⟩
 ·rw [(List.mem_replicate.1 hz).2]; exact Z
 ·rw [List.drop_eq_nil_of_le (by simp), List.drop_eq_nil_of_le (Nat.le_refl _)]; simp [lval]
theorem da0 {B : Nat} {xs : List Nat} {i : Nat} (h : i < xs.length) : lval B (xs.drop i) = xs[i] + B * lval B (xs.drop (i + 1)) := by
 rw [List.drop_eq_getElem_cons h]; rfl
theorem rg0 {B : Nat} {xs : List Nat} {b i r : Nat} (h : i < xs.length) (Z : r = lval B (xs.drop (i + 1)) % b) : (r * B + xs[i]) % b = lval B (xs.drop i) % b := by
 rw [da0 h, Z];have := Nat.div_add_mod (lval B (xs.drop (i + 1))) b;generalize lval B (xs.drop (i + 1)) = n at *;generalize Y : n % b = m at *;generalize n / b = d at *;subst this;rw [show xs[i] + B * (b * d + m) = (m * B + xs[i]) + b * (B * d) by grind, Nat.add_mul_mod_self_left]
theorem rlt {B r b x : Nat} (Y : r < b) (hx : x < B) : (r * B + x) / b < B := by
 apply Nat.div_lt_of_lt_mul;have Z : (r + 1) * B <= b * B := Nat.mul_le_mul_right _ Y;rw [Nat.add_mul] at Z;omega
theorem QuoAt.step {B : Nat} {xs : List Nat} {b i r d : Nat} {q : List Nat} (V : 0 < b) (hx : ∀ x ∈ xs, x < B) (h : QuoAt B xs b (i + 1) q) (S : i < xs.length)
 (R : r = lval B (xs.drop (i + 1)) % b) (U : d = (r * B + xs[i]) / b) : QuoAt B xs b i (q.set i d) := by
 obtain ⟨Q, O, N⟩ := h;have Y : r < b := by rw [R]; exact Nat.mod_lt _ V
 refine ⟨by simp [Q], fun z X => ?_, ?_⟩
 ·rcases List.mem_or_eq_of_mem_set X with X | rfl
  ·exact O z X
  ·rw [U]; exact rlt Y (hx _ (List.getElem_mem S))
 ·have Z : i < (q.set i d).length := by simp; omega
  rw [da0 Z, da0 S, List.getElem_set_self, List.drop_set_of_lt (by omega), N, U, R];have := Nat.div_add_mod (lval B (xs.drop (i + 1))) b;generalize lval B (xs.drop (i + 1)) = n at *;generalize n % b = m at *;generalize n / b = e at *;subst this;rw [show xs[i] + B * (b * e + m) = (m * B + xs[i]) + b * (B * e) by grind, Nat.add_mul_div_left _ _ V]
theorem QuoAt.done {B : Nat} (X : 2 <= B) {xs : List Nat} {b : Nat} {q : List Nat} (h : QuoAt B xs b 0 q) : dropZ q = lm B (lval B xs / b) := by
 obtain ⟨V, Y, Z⟩ := h;rw [List.drop_zero, List.drop_zero] at Z;rw [dZe B X _ Y, Z]
theorem lcd {B : Nat} (Z : 2 <= B) {r x : Nat} (hx : x < B) : dropZ (x :: lm B r) = lm B (r * B + x) := by
 rw [dZe B Z _ (by
  intro y hy;rcases List.mem_cons.1 hy with rfl | hy
  ·exact hx
  ·exact lm_lt B r Z y hy)]
 congr 1;simp only [lval];rw [llm B r Z, Nat.mul_comm B r, Nat.add_comm]
def TakeInv (s : List UInt8) (m k : Nat) (o : List Nat) : Prop := o.length = k /\ (∀ z ∈ o, z < B4) /\ lval B4 o + dval (s.take m) * B4 ^ k = dval s
theorem TakeInv.start (s : List UInt8) : TakeInv s s.length 0 [] := ⟨rfl, by simp, by simp [lval]⟩
theorem TakeInv.step {s : List UInt8} {m k x : Nat} {o : List Nat} (N : ∀ c ∈ s, isDig c) (h : TakeInv s m k o) (L : m <= s.length) (hx : x = dval ((s.take m).drop (m - 4))) :
 TakeInv s (m - 4) (k + 1) (o ++ [x]) := by
 obtain ⟨V, Q, O⟩ := h;have S : ((s.take m).drop (m - 4)).length = min 4 m := by simp; omega
 have Z : ∀ c ∈ (s.take m).drop (m - 4), isDig c := fun c hc => N c (List.mem_of_mem_take (List.mem_of_mem_drop hc));have Y := dlt _ Z;rw [S, <- hx] at Y;have M : x < B4 := by
  refine Nat.lt_of_lt_of_le Y ?_;show 10 ^ (min 4 m) <= 10 ^ 4;exact Nat.pow_le_pow_right (by decide) (Nat.min_le_left _ _)
 have e : s.take m = s.take (m - 4) ++ (s.take m).drop (m - 4) := by
  conv => lhs; rw [<- List.take_append_drop (m - 4) (s.take m)]
  rw [List.take_take, Nat.min_eq_left (by omega)]
 have R : dval (s.take m) = dval (s.take (m - 4)) * B4 + x := by
  rw [e, dad, S, <- hx];rcases Nat.lt_or_ge m 4 with U | U
  ·rw [show m - 4 = 0 by omega]; simp [dval]
  ·rw [Nat.min_eq_left U]; rfl
 refine ⟨by simp [V], fun z X => ?_, ?_⟩
 ·rcases List.mem_append.1 X with X | X
  ·exact Q z X
  ·simp only [List.mem_cons, List.not_mem_nil, or_false] at X
   omega
 ·rw [lsc, V, <- O, R, Nat.pow_succ]
  grind
theorem TakeInv.done {s : List UInt8} {k : Nat} {o : List Nat} (h : TakeInv s 0 k o) : dropZ o = lm B4 (dval s) := by
 obtain ⟨X, Z, Y⟩ := h;rw [dZe B4 ta0 _ Z, <- Y];simp [dval]
theorem gd0 {n : Nat} {i : Nat} (h : i < (lm B4 n).length) (Z : 0 < lval B4 ((lm B4 n).drop (i + 1))) :
 decDigits (lval B4 ((lm B4 n).drop i)) = decDigits (lval B4 ((lm B4 n).drop (i + 1))) ++ pad 4 (lm B4 n)[i] := by
 rw [da0 h, Nat.add_comm, Nat.mul_comm B4];exact dc0 _ 4 _ Z (by decide) (lm_lt B4 n ta0 _ (List.getElem_mem h))
theorem glt {n : Nat} (h : (lm B4 n).length - 1 < (lm B4 n).length) : lval B4 ((lm B4 n).drop ((lm B4 n).length - 1)) = (lm B4 n)[(lm B4 n).length - 1] /\ 0 < (lm B4 n)[(lm B4 n).length - 1] := by
 rw [List.drop_eq_getElem_cons h, List.drop_eq_nil_of_le (by omega)];refine ⟨by simp [lval], ?_⟩;rcases Nat.eq_zero_or_pos (lm B4 n)[(lm B4 n).length - 1] with Z | Z
 ·refine absurd ?_ (lc0 B4 n ta0 ((lm B4 n).take ((lm B4 n).length - 1)))
  conv => lhs; rw [<- List.take_append_drop ((lm B4 n).length - 1) (lm B4 n)]
  rw [List.drop_eq_getElem_cons h, Z, List.drop_eq_nil_of_le (by omega)]
 ·exact Z
theorem ldp {n i : Nat} (h : i < (lm B4 n).length) : 0 < lval B4 ((lm B4 n).drop i) := by
 have X : 0 < n := by
  rcases Nat.eq_zero_or_pos n with rfl | Z
  ·rw [lzo] at h; simp at h
  ·exact Z
 generalize Y : (lm B4 n).length - 1 - i = k
 induction k generalizing i with
 | zero =>
   obtain rfl : i = (lm B4 n).length - 1 := by omega
   have := glt h;omega
 | succ k ih =>
   rw [da0 h];have := ih (i := i + 1) (by omega) (by omega);have : 0 < B4 * lval B4 ((lm B4 n).drop (i + 1)) := Nat.mul_pos (by decide) this;omega
def TimesR (p q : List Nat) (i k : Nat) (o : List Int) : Prop :=
 o.length = p.length + q.length /\ (∀ (j : Nat) (h : j < o.length), 0 <= o[j] /\ o[j] <= (i : Int) * 100000000 + (if j < i + k then 100000000 else 0)) /\
  ival o = (lval B4 (p.take i) : Int) * (lval B4 q : Int) + ((p[i]?.getD 0 : Nat) : Int) * (lval B4 (q.take k) : Int) * 10000 ^ i
theorem TimesR.start (p q : List Nat) : TimesR p q 0 0 (List.replicate (p.length + q.length) 0) := by
 refine ⟨List.length_replicate, fun j h => ?_, ?_⟩
 ·rw [List.getElem_replicate]
  refine ⟨Int.le_refl _, ?_⟩;split <;> omega
 ·rw [ire]; simp only [lval, List.take_zero]; omega
theorem TimesR.step {p q : List Nat} {i k : Nat} {o : List Int} {y : Int} (L : ∀ x ∈ p, x < B4) (hq : ∀ x ∈ q, x < B4) (h : TimesR p q i k o) (U : i < p.length) (S : k < q.length) (Z : i + k < o.length)
 (hy : y = o[i + k] + (p[i] : Int) * (q[k] : Int)) : TimesR p q i (k + 1) (o.set (i + k) y) := by
 obtain ⟨Q, V, O⟩ := h;have Y := L _ (List.getElem_mem U);have X := hq _ (List.getElem_mem S);have K : p[i] * q[k] <= 9999 * 9999 := Nat.mul_le_mul (by unfold B4 at Y; omega) (by unfold B4 at X; omega);have N : (p[i] : Int) * (q[k] : Int) <= 99980001 := by rw [<- Int.natCast_mul]; omega
 have M : 0 <= (p[i] : Int) * (q[k] : Int) := Int.mul_nonneg (by omega) (by omega);refine ⟨by rw [List.length_set]; exact Q, fun j hj => ?_, ?_⟩
 ·rw [List.getElem_set]
  split
  ·rename_i e; subst e
   have := V (i + k) Z;rw [if_neg (by omega)] at this;rw [if_pos (by omega), hy];omega
  ·rename_i e
   have := V j (by simpa using hj);by_cases hjk : j < i + k
   ·rw [if_pos hjk] at this; rw [if_pos (by omega)]; exact this
   ·rw [if_neg hjk] at this; rw [if_neg (by omega)]; exact this
 ·rw [ist _ _ _ Z, O, hy]
  have e : (lval B4 (q.take (k + 1)) : Int) = (lval B4 (q.take k) : Int) + (q[k] : Int) * 10000 ^ k := by
   rw [List.take_succ_eq_append_getElem S, lsc, List.length_take, Nat.min_eq_left (by omega), Int.natCast_add, Int.natCast_mul, Int.natCast_pow]; rfl
  rw [e, List.getElem?_eq_getElem U, Int.pow_add];simp only [Option.getD_some];generalize (10000 : Int) ^ i = P;generalize (10000 : Int) ^ k = R;grind
theorem TimesR.next {p q : List Nat} {i : Nat} {o : List Int} (h : TimesR p q i q.length o) (Z : i < p.length) : TimesR p q (i + 1) 0 o := by
 obtain ⟨Y, X, V⟩ := h;refine ⟨Y, fun j hj => ?_, ?_⟩
 ·have := X j hj
  refine ⟨this.1, ?_⟩;have U : (if j < i + q.length then (100000000 : Int) else 0) <= 100000000 := by split <;> omega
  have S : (0 : Int) <= (if j < i + 1 + 0 then (100000000 : Int) else 0) := by split <;> omega
  have R : ((i + 1 : Nat) : Int) * 100000000 = (i : Int) * 100000000 + 100000000 := by omega
  omega
 ·rw [V, List.take_length]
  have e : (lval B4 (p.take (i + 1)) : Int) = (lval B4 (p.take i) : Int) + (p[i] : Int) * 10000 ^ i := by
   rw [List.take_succ_eq_append_getElem Z, lsc, List.length_take, Nat.min_eq_left (by omega), Int.natCast_add, Int.natCast_mul, Int.natCast_pow]; rfl
  rw [e, List.getElem?_eq_getElem Z];simp only [Option.getD_some, List.take_zero, lval];generalize (10000 : Int) ^ i = P;grind
theorem TimesR.val {p q : List Nat} {o : List Int} (h : TimesR p q p.length 0 o) : ival o = ((lval B4 p * lval B4 q : Nat) : Int) := by
 obtain ⟨Y, X, Z⟩ := h;rw [Z, List.take_length];simp [lval]
abbrev Tri := Int × Int × Int
abbrev Edge := Int × Int
abbrev PtQ := Rat × Rat
def areaQ (a b c : PtQ) : Rat := (b.1 - a.1) * (c.2 - a.2) - (b.2 - a.2) * (c.1 - a.1)
def turnZ (a b c : PtQ) : Int := (areaQ a b c).num.sign
def revE (s : Edge) : Edge := (s.2, s.1)
def sOf (t : Tri) : List Edge := [(t.1, t.2.1), (t.2.1, t.2.2), (t.2.2, t.1)]
def idxOf (t : Tri) : List Int := [t.1, t.2.1, t.2.2]
def kOf (T : List Tri) : List Edge := T.flatMap sOf
def bOf (E : List Edge) : List Edge := E.filter fun s => !E.contains (revE s)
def nxtOf (B : List Edge) (a : Int) : Option Int := (B.find? fun s => s.1 == a).map (·.2)
def lSS (B : List Edge) : Int := B.foldl (fun m s => if m < 0 \/ s.1 < m then s.1 else m) (-1)
def chase (B : List Edge) (first : Int) : Nat -> Int -> List Int -> Option (List Int)
 | 0, _, out => some out
 | n + 1, a, out => match nxtOf B a with
   | none => none
   | some b => if a = first /\ out ≠ [] then none else chase B first n b (out ++ [a])
def oLL (E : List Edge) : List Int :=
 if ((bOf E).map (·.1)).Nodup then (chase (bOf E) (lSS (bOf E)) (bOf E).length (lSS (bOf E)) []).getD [] else []
def aNw {α : Type} [DecidableEq α] (acc : List α) (x : α) : List α := if x ∈ acc then acc else acc ++ [x]
def distL {α : Type} [DecidableEq α] (l : List α) : List α := l.foldl aNw []
def usedN (T : List Tri) : Nat := (distL (T.flatMap idxOf)).length
def ptAt (P : List PtQ) (c : List Int) (i : Nat) : PtQ := P[(c[i % c.length]?.getD 0).toNat]?.getD (0, 0)
def upB (p q : PtQ) : Bool := decide (p.2 < q.2) || (decide (p.2 = q.2) && decide (p.1 < q.1))
def upAt (P : List PtQ) (c : List Int) (i : Nat) : Bool := upB (ptAt P c i) (ptAt P c (i + 1))
def bAt (P : List PtQ) (c : List Int) (i : Nat) : Bool := decide (0 <= turnZ (ptAt P c i) (ptAt P c (i + 1)) (ptAt P c (i + 2)))
def rAt (P : List PtQ) (c : List Int) (i : Nat) : Bool := !upAt P c i && upAt P c (i + 1)
def rNN (P : List PtQ) (c : List Int) (k : Nat) : Nat := ((List.range k).filter (rAt P c)).length
def onceB (P : List PtQ) (c : List Int) : Bool := (List.range c.length).all (bAt P c) && decide (rNN P c c.length = 1)
def wBB (P : List PtQ) (T : List Tri) : Bool :=
 decide (kOf T).Nodup && (!(oLL (kOf T)).isEmpty && decide (usedN T = P.length) && onceB P (oLL (kOf T)))
def moveP (s t d : Rat) (p : PtQ) : PtQ := ((p.1 + s) * d, (p.2 + t) * d)
theorem aQm (s t d : Rat) (a b c : PtQ) : areaQ (moveP s t d a) (moveP s t d b) (moveP s t d c) = d * d * areaQ a b c := by
 unfold areaQ moveP;grind
theorem tZm (s t d : Rat) (Y : 0 < d) (a b c : PtQ) : turnZ (moveP s t d a) (moveP s t d b) (moveP s t d c) = turnZ a b c := by
 unfold turnZ;rw [aQm];have h := Rat.mul_pos Y Y;generalize areaQ a b c = x at *;have key : ∀ q : Rat, q.num.sign = if q < 0 then -1 else if 0 < q then 1 else 0 := fun q => by
  split
  ·rename_i h; exact Int.sign_eq_neg_one_of_neg (num_lt_zero_iff.2 h)
  ·split
   ·rename_i h; exact Int.sign_eq_one_of_pos (num_pos_iff.2 h)
   ·rename_i Z h2
    have : q = 0 := Rat.le_antisymm (Rat.not_lt.1 h2) (Rat.not_lt.1 Z);subst this; rfl
 rw [key, key];have X : d * d * x < 0 ↔ x < 0 := by
  constructor
  ·intro Z
   refine Rat.not_le.1 fun h2 => ?_;have := Rat.mul_nonneg (Rat.le_of_lt h) h2;exact absurd Z (Rat.not_lt.2 this)
  ·intro Z
   have := Rat.mul_pos h (a := d * d) (b := -x) (by grind);grind
 have V : 0 < d * d * x ↔ 0 < x := by
  constructor
  ·intro Z
   refine Rat.not_le.1 fun h2 => ?_;have := Rat.mul_nonneg (a := d * d) (b := -x) (Rat.le_of_lt h) (by grind);grind
  ·intro Z; exact Rat.mul_pos h Z
 simp only [X, V]
theorem uBm (s t d : Rat) (Z : 0 < d) (p q : PtQ) : upB (moveP s t d p) (moveP s t d q) = upB p q := by
 have lt : ∀ a b z : Rat, (a + z) * d < (b + z) * d ↔ a < b := fun a b z => by
  constructor
  ·intro h
   refine Rat.not_le.1 fun h2 => ?_;have := Rat.mul_nonneg (a := a - b) (b := d) (by grind) (Rat.le_of_lt Z);grind
  ·intro h
   have := Rat.mul_pos (a := b - a) (b := d) (by grind) Z;grind
 have Y : ∀ a b z : Rat, (a + z) * d = (b + z) * d ↔ a = b := fun a b z => by
  constructor
  ·intro h
   refine Rat.le_antisymm (Rat.not_lt.1 fun h2 => ?_) (Rat.not_lt.1 fun h2 => ?_)
   ·have := (lt b a z).2 h2; rw [h] at this; exact absurd this (Rat.lt_irrefl)
   ·have := (lt a b z).2 h2; rw [h] at this; exact absurd this (Rat.lt_irrefl)
  ·intro h; rw [h]
 unfold upB moveP;simp only [lt, Y]
end Go.Proofs.YtmcbeajdloaliaaGreatDoor
