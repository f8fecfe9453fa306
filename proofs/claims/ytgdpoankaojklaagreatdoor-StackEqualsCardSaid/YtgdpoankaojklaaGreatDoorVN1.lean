import Derived.Lib.ItoaNum
import Derived.Lib.Atoi
import Derived.Lib.Strings
import Derived.Lib.IndexMore
import Derived.Lib.ParseIntB
/- Plain: numbers, limbs, texts of numbers, meshes. -/
namespace Go.Proofs.YtgdpoankaojklaaGreatDoor
open Go.Lib
def isDig (c : UInt8) : Prop := 48 <= c.toNat /\ c.toNat <= 57
instance (c : UInt8) : Decidable (isDig c) := by unfold isDig; infer_instance
def dval (l : List UInt8) : Nat := l.foldl (fun a c => 10 * a + (c.toNat - 48)) 0
theorem dval_snoc (l : List UInt8) (c : UInt8) : dval (l ++ [c]) = 10 * dval l + (c.toNat - 48) := by
 simp [dval, List.foldl_append]
theorem dval_append (l r : List UInt8) : dval (l ++ r) = dval l * 10 ^ r.length + dval r := by
 generalize hn : r.length = n
 induction n generalizing r with
 | zero => obtain rfl := List.length_eq_zero_iff.1 hn; simp [dval]
 | succ n ih =>
   rcases List.eq_nil_or_concat r with rfl | ⟨L, b, rfl⟩
   ·simp at hn
   ·simp only [List.concat_eq_append, List.length_append, List.length_cons, List.length_nil] at hn ⊢
    rw [<- List.append_assoc, dval_snoc, ih L (by omega), dval_snoc, Nat.pow_succ];grind
theorem dval_cons (c : UInt8) (r : List UInt8) : dval (c :: r) = (c.toNat - 48) * 10 ^ r.length + dval r := by
 rw [<- List.singleton_append, dval_append];simp [dval]
theorem dval_lt (l : List UInt8) (h : ∀ c ∈ l, isDig c) : dval l < 10 ^ l.length := by
 induction l with
 | nil => simp [dval]
 | cons c r ih =>
   have hc := h c (by simp);have hr := ih (fun x hx => h x (by simp [hx]));rw [dval_cons, List.length_cons, Nat.pow_succ];unfold isDig at hc;have : (c.toNat - 48) * 10 ^ r.length <= 9 * 10 ^ r.length := Nat.mul_le_mul_right _ (by omega);omega
theorem toNat_ofNat_dig (d : Nat) (h : d < 10) : (UInt8.ofNat (48 + d)).toNat = 48 + d := by
 simp; omega
theorem decDigits_step (n : Nat) (h : ¬ n < 10) : decDigits n = decDigits (n / 10) ++ [UInt8.ofNat (48 + n % 10)] := by
 rw [decDigits, dif_neg h]
theorem dval_decDigits (n : Nat) : dval (decDigits n) = n := by
 induction n using Nat.strongRecOn with
 | _ n ih =>
   by_cases h : n < 10
   ·rw [decDigits_one h]
    simp only [dval, List.foldl_cons, List.foldl_nil, toNat_ofNat_dig n h]; omega
   ·rw [decDigits_step n h, dval_snoc, ih (n / 10) (by omega), toNat_ofNat_dig _ (by omega)]
    omega
theorem decDigits_dig (n : Nat) : ∀ c ∈ decDigits n, isDig c := by
 induction n using Nat.strongRecOn with
 | _ n ih =>
   intro c hc;by_cases h : n < 10
   ·rw [decDigits_one h] at hc
    simp only [List.mem_singleton] at hc;subst hc;have := toNat_ofNat_dig n h;unfold isDig; omega
   ·rw [decDigits_step n h] at hc
    simp only [List.mem_append, List.mem_singleton] at hc;rcases hc with hc | hc
    ·exact ih (n / 10) (by omega) c hc
    ·subst hc
     have := toNat_ofNat_dig (n % 10) (by omega);unfold isDig; omega
theorem decDigits_ne_nil (n : Nat) : decDigits n ≠ [] := by
 intro h;have := decDigits_length n;have := nDigits_pos n;rw [h] at *;simp at *;omega
theorem decDigits_pos_head (n : Nat) (h : 0 < n) : ∃ c r, decDigits n = c :: r /\ 49 <= c.toNat /\ c.toNat <= 57 := by
 induction n using Nat.strongRecOn with
 | _ n ih =>
   by_cases h1 : n < 10
   ·rw [decDigits_one h1]
    exact ⟨_, _, rfl, by rw [toNat_ofNat_dig n h1]; omega, by rw [toNat_ofNat_dig n h1]; omega⟩
   ·obtain ⟨c, r, e, hc⟩ := ih (n / 10) (by omega) (by omega)
    rw [decDigits_step n h1, e];exact ⟨c, r ++ _, rfl, hc⟩
theorem decDigits_dval (l : List UInt8) (hd : ∀ c ∈ l, isDig c) (hne : l ≠ []) (hz : ∀ c r, l = c :: r -> c.toNat = 48 -> r = []) :
 decDigits (dval l) = l := by
 generalize hn : l.length = n
 induction n using Nat.strongRecOn generalizing l with
 | _ n ih =>
   rcases List.eq_nil_or_concat l with rfl | ⟨L, b, rfl⟩
   ·exact absurd rfl hne
   ·rw [List.concat_eq_append] at *
    have hb : isDig b := hd b (by simp);have hbe : UInt8.ofNat (48 + (b.toNat - 48)) = b := by
     unfold isDig at hb;apply UInt8.toNat_inj.1;rw [toNat_ofNat_dig _ (by omega)]; omega
    by_cases hL : L = []
    ·subst hL
     simp only [List.nil_append] at *;unfold isDig at hb;have hv : dval [b] = b.toNat - 48 := by simp [dval]
     rw [hv, decDigits_one (by omega), hbe]
    ·have hLd : ∀ c ∈ L, isDig c := fun c hc => hd c (by simp [hc])
     have hLz : ∀ c r, L = c :: r -> c.toNat = 48 -> r = [] := by
      intro c r e h48;have := hz c (r ++ [b]) (by rw [e]; rfl) h48;simp at this
     have hi := ih L.length (by simp at hn; omega) L hLd hL hLz rfl;have hpos : 0 < dval L := by
      rcases Nat.eq_zero_or_pos (dval L) with h0 | h0
      ·exfalso
       rw [h0, decDigits_one (by omega)] at hi;have h1 : (UInt8.ofNat (48 + 0)).toNat = 48 := by decide
       have := hz (UInt8.ofNat (48 + 0)) [b] (by rw [<- hi]; rfl) h1;simp at this
      ·exact h0
     unfold isDig at hb;rw [dval_snoc, decDigits_step _ (by omega), show (10 * dval L + (b.toNat - 48)) / 10 = dval L by omega, hi,
      show (10 * dval L + (b.toNat - 48)) % 10 = b.toNat - 48 by omega, hbe]
theorem decDigits_inj {a b : Nat} (h : decDigits a = decDigits b) : a = b := by
 rw [<- dval_decDigits a, h, dval_decDigits]
theorem decDigits_zero : decDigits 0 = [48] := by rw [decDigits_one (by omega)]; rfl
def pad (k x : Nat) : List UInt8 := List.replicate (k - (decDigits x).length) 48 ++ decDigits x
theorem nDigits_le_iff (n k : Nat) (hk : 0 < k) : nDigits n <= k ↔ n < 10 ^ k := by
 constructor
 ·intro h
  exact Nat.lt_of_lt_of_le (lt_pow_nDigits n) (Nat.pow_le_pow_right (by omega) h)
 ·intro h
  induction n using Nat.strongRecOn generalizing k with
  | _ n ih =>
    by_cases h1 : n < 10
    ·rw [nDigits_small h1]; exact hk
    ·rw [nDigits_big h1]
     obtain ⟨j, rfl⟩ : ∃ j, k = j + 1 := ⟨k - 1, by omega⟩;rw [Nat.pow_succ] at h;have hj : 0 < j := by
      rcases Nat.eq_zero_or_pos j with e | e
      ·subst e; simp at h; omega
      ·exact e
     have := ih (n / 10) (by omega) j hj (by omega);omega
theorem len_decDigits_le (n k : Nat) (hk : 0 < k) : (decDigits n).length <= k ↔ n < 10 ^ k := by
 rw [decDigits_length]; exact nDigits_le_iff n k hk
theorem dval_replicate (j : Nat) (l : List UInt8) : dval (List.replicate j 48 ++ l) = dval l := by
 rw [dval_append];have : dval (List.replicate j 48) = 0 := by
  induction j with
  | zero => rfl
  | succ j ih => rw [List.replicate_succ, dval_cons, ih]; simp
 rw [this]; simp
theorem pad_length (k x : Nat) (hk : 0 < k) (h : x < 10 ^ k) : (pad k x).length = k := by
 have := (len_decDigits_le x k hk).2 h;simp [pad]; omega
theorem pad_dval (k x : Nat) : dval (pad k x) = x := by
 unfold pad; rw [dval_replicate, dval_decDigits]
theorem pad_dig (k x : Nat) : ∀ c ∈ pad k x, isDig c := by
 intro c hc;unfold pad at hc;simp only [List.mem_append, List.mem_replicate] at hc;rcases hc with ⟨_, rfl⟩ | hc
 ·decide
 ·exact decDigits_dig x c hc
theorem decDigits_shift (h k x : Nat) (hh : 0 < h) (hk : 0 < k) (hx : x < 10 ^ k) : decDigits (h * 10 ^ k + x) = decDigits h ++ pad k x := by
 have hv : dval (decDigits h ++ pad k x) = h * 10 ^ k + x := by
  rw [dval_append, dval_decDigits, pad_dval, pad_length k x hk hx]
 rw [<- hv];refine decDigits_dval _ ?_ ?_ ?_
 ·intro c hc
  simp only [List.mem_append] at hc;rcases hc with hc | hc
  ·exact decDigits_dig h c hc
  ·exact pad_dig k x c hc
 ·simp [decDigits_ne_nil]
 ·intro c r e h48
  obtain ⟨c', r', e', h1, _⟩ := decDigits_pos_head h hh;rw [e'] at e;simp only [List.cons_append, List.cons.injEq] at e;rw [<- e.1] at h48;omega
def lval (B : Nat) : List Nat -> Nat
 | [] => 0
 | x :: xs => x + B * lval B xs
theorem lval_snoc (B : Nat) (l : List Nat) (x : Nat) : lval B (l ++ [x]) = lval B l + x * B ^ l.length := by
 induction l with
 | nil => simp [lval]
 | cons y l ih => simp only [List.cons_append, lval, ih, List.length_cons, Nat.pow_succ]; grind
theorem lval_append (B : Nat) (l r : List Nat) : lval B (l ++ r) = lval B l + B ^ l.length * lval B r := by
 induction l with
 | nil => simp [lval]
 | cons y l ih => simp only [List.cons_append, lval, ih, List.length_cons, Nat.pow_succ]; grind
theorem lval_lt (B : Nat) (l : List Nat) (h : ∀ x ∈ l, x < B) : lval B l < B ^ l.length := by
 induction l with
 | nil => simp [lval]
 | cons x l ih =>
   have hx := h x (by simp);have hr := ih (fun y hy => h y (by simp [hy]));simp only [lval, List.length_cons, Nat.pow_succ];have : B * (lval B l + 1) <= B * B ^ l.length := Nat.mul_le_mul_left _ hr;rw [Nat.mul_comm (B ^ l.length) B];rw [Nat.mul_add] at this;omega
def lm (B n : Nat) : List Nat := if _h : n = 0 \/ B < 2 then [] else n % B :: lm B (n / B)
termination_by n
decreasing_by exact Nat.div_lt_self (by omega) (by omega)
theorem lm_zero (B : Nat) : lm B 0 = [] := by rw [lm, dif_pos (Or.inl rfl)]
theorem lm_pos (B n : Nat) (hB : 2 <= B) (h : 0 < n) : lm B n = n % B :: lm B (n / B) := by
 rw [lm, dif_neg (by omega)]
theorem lval_lm (B n : Nat) (hB : 2 <= B) : lval B (lm B n) = n := by
 induction n using Nat.strongRecOn with
 | _ n ih =>
   rcases Nat.eq_zero_or_pos n with rfl | h
   ·simp [lm_zero, lval]
   ·rw [lm_pos B n hB h]
    simp only [lval];rw [ih (n / B) (Nat.div_lt_self h hB)];exact Nat.mod_add_div n B
theorem lm_lt (B n : Nat) (hB : 2 <= B) : ∀ x ∈ lm B n, x < B := by
 induction n using Nat.strongRecOn with
 | _ n ih =>
   rcases Nat.eq_zero_or_pos n with rfl | h
   ·simp [lm_zero]
   ·rw [lm_pos B n hB h]
    intro x hx;simp only [List.mem_cons] at hx;rcases hx with rfl | hx
    ·exact Nat.mod_lt _ (by omega)
    ·exact ih (n / B) (Nat.div_lt_self h hB) x hx
theorem lm_ne_nil (B n : Nat) (hB : 2 <= B) (h : 0 < n) : lm B n ≠ [] := by rw [lm_pos B n hB h]; simp
def dropZ (l : List Nat) : List Nat := (l.reverse.dropWhile (· == 0)).reverse
theorem dropZ_snoc_zero (l : List Nat) : dropZ (l ++ [0]) = dropZ l := by simp [dropZ]
theorem dropZ_snoc_pos (l : List Nat) (x : Nat) (h : x ≠ 0) : dropZ (l ++ [x]) = l ++ [x] := by simp [dropZ, h]
theorem lm_snoc (B : Nat) (hB : 2 <= B) (l : List Nat) (x : Nat) (hl : ∀ y ∈ l, y < B) (hx : x < B) (h0 : 0 < x) :
 lm B (lval B (l ++ [x])) = l ++ [x] := by
 induction l with
 | nil =>
   simp only [List.nil_append, lval, Nat.mul_zero, Nat.add_zero];rw [lm_pos B x hB h0, Nat.mod_eq_of_lt hx, Nat.div_eq_of_lt hx, lm_zero]
 | cons y l ih =>
   have hy := hl y (by simp);have ih' := ih (fun z hz => hl z (by simp [hz]));have hpos : 0 < lval B (l ++ [x]) := by
    rw [lval_snoc];have : 0 < x * B ^ l.length := Nat.mul_pos h0 (Nat.pow_pos (by omega));omega
   simp only [List.cons_append, lval];rw [lm_pos B _ hB (by have := Nat.mul_pos (show 0 < B by omega) hpos; omega), Nat.add_mul_mod_self_left, Nat.mod_eq_of_lt hy,
    Nat.add_mul_div_left _ _ (by omega), Nat.div_eq_of_lt hy, Nat.zero_add, ih']
theorem dropZ_eq (B : Nat) (hB : 2 <= B) (l : List Nat) (hl : ∀ y ∈ l, y < B) : dropZ l = lm B (lval B l) := by
 generalize hn : l.length = n
 induction n generalizing l with
 | zero => obtain rfl := List.length_eq_zero_iff.1 hn; simp [dropZ, lval, lm_zero]
 | succ n ih =>
   rcases List.eq_nil_or_concat l with rfl | ⟨L, b, rfl⟩
   ·simp at hn
   ·rw [List.concat_eq_append] at *
    by_cases hb : b = 0
    ·subst hb
     rw [dropZ_snoc_zero, lval_snoc, Nat.zero_mul, Nat.add_zero];exact ih L (fun y hy => hl y (by simp [hy])) (by simp at hn; omega)
    ·rw [dropZ_snoc_pos L b hb, lm_snoc B hB L b (fun y hy => hl y (by simp [hy])) (hl b (by simp)) (by omega)]
theorem lm_last (B n : Nat) (hB : 2 <= B) (L : List Nat) : lm B n ≠ L ++ [0] := by
 intro h;have h1 : lm B (lval B (lm B n)) = dropZ (lm B n) := (dropZ_eq B hB _ (lm_lt B n hB)).symm;rw [lval_lm B n hB, h, dropZ_snoc_zero] at h1;have h2 : (dropZ L).length <= L.length := by
  unfold dropZ;rw [List.length_reverse];exact Nat.le_trans (List.dropWhile_sublist _).length_le (by simp)
 have h3 := congrArg List.length h1;simp at h3;omega
theorem lm_inj (B : Nat) (hB : 2 <= B) {a b : Nat} (h : lm B a = lm B b) : a = b := by
 rw [<- lval_lm B a hB, h, lval_lm B b hB]
theorem lm_len_lt (B n : Nat) (hB : 2 <= B) : n < B ^ (lm B n).length := by
 have := lval_lt B (lm B n) (lm_lt B n hB);rwa [lval_lm B n hB] at this
theorem lm_len_ge (B n : Nat) (hB : 2 <= B) (h : 0 < n) : B ^ ((lm B n).length - 1) <= n := by
 rcases List.eq_nil_or_concat (lm B n) with e | ⟨L, b, e⟩
 ·exact absurd e (lm_ne_nil B n hB h)
 ·rw [List.concat_eq_append] at e
  have hb : b ≠ 0 := fun hb => lm_last B n hB L (by rw [e, hb])
  have hv := lval_lm B n hB;rw [e, lval_snoc] at hv;rw [e];simp only [List.length_append, List.length_cons, List.length_nil, Nat.add_sub_cancel];have : 1 * B ^ L.length <= b * B ^ L.length := Nat.mul_le_mul_right _ (by omega);omega
theorem lm_len_le (B n k : Nat) (hB : 2 <= B) (h : n < B ^ k) : (lm B n).length <= k := by
 rcases Nat.eq_zero_or_pos n with rfl | h0
 ·simp [lm_zero]
 ·have := lm_len_ge B n hB h0
  have h1 := Nat.lt_of_le_of_lt this h;have := (Nat.pow_lt_pow_iff_right (show 1 < B by omega)).1 h1;omega
theorem lm_lt_of_len (B a b : Nat) (hB : 2 <= B) (h : (lm B a).length < (lm B b).length) : a < b := by
 have h1 := lm_len_lt B a hB;rcases Nat.eq_zero_or_pos b with rfl | h0
 ·simp [lm_zero] at h
 ·have h2 := lm_len_ge B b hB h0
  have := Nat.pow_le_pow_right (show 0 < B by omega) (show (lm B a).length <= (lm B b).length - 1 by omega);omega
theorem lval_lt_of_top (B : Nat) (a b : List Nat) (i : Nat) (hla : ∀ x ∈ a, x < B)
 (hi : i < a.length) (hib : i < b.length) (hd : a.drop (i + 1) = b.drop (i + 1)) (hlt : a[i] < b[i]) : lval B a < lval B b := by
 have ea : a = a.take i ++ (a[i] :: a.drop (i + 1)) := by rw [List.getElem_cons_drop, List.take_append_drop]
 have eb : b = b.take i ++ (b[i] :: b.drop (i + 1)) := by rw [List.getElem_cons_drop, List.take_append_drop]
 have la : (a.take i).length = i := by simp; omega
 have lb : (b.take i).length = i := by simp; omega
 have ha : lval B a = lval B (a.take i) + B ^ i * (a[i] + B * lval B (a.drop (i + 1))) := by
  conv => lhs; rw [ea]
  rw [lval_append, la]; rfl
 have hb : lval B b = lval B (b.take i) + B ^ i * (b[i] + B * lval B (b.drop (i + 1))) := by
  conv => lhs; rw [eb]
  rw [lval_append, lb]; rfl
 have h1 : lval B (a.take i) < B ^ i := by
  have := lval_lt B (a.take i) (fun x hx => hla x (List.mem_of_mem_take hx));rwa [la] at this
 rw [ha, hb, <- hd];generalize B * lval B (a.drop (i + 1)) = t;have : B ^ i * (a[i] + t + 1) <= B ^ i * (b[i] + t) := Nat.mul_le_mul_left _ (by omega);rw [Nat.mul_add _ _ 1] at this;omega
def IS (n : Int) : ByteArray := ⟨(itoa n).toArray⟩
theorem IS_list (n : Int) : (IS n).data.toList = itoa n := by simp [IS]
theorem IS_size (n : Int) : (IS n).size = (itoa n).length := by simp [IS, ByteArray.size]
theorem ba_ext {a b : ByteArray} (h : a.data.toList = b.data.toList) : a = b := ByteArray.ext (Array.toList_inj.1 h)
theorem itoa_neg {n : Int} (h : n < 0) : itoa n = 45 :: decDigits n.natAbs := by rw [itoa, if_pos h]
theorem itoa_nonneg {n : Int} (h : 0 <= n) : itoa n = decDigits n.natAbs := by
 rw [itoa, if_neg (by omega)]; congr 1; omega
theorem itoa_nat (n : Nat) : itoa (n : Int) = decDigits n := by rw [itoa_nonneg (by omega)]; simp
theorem dec_head_dig (n : Nat) : ∃ c r, decDigits n = c :: r /\ isDig c := by
 cases h : decDigits n with
 | nil => exact absurd h (decDigits_ne_nil n)
 | cons c r => exact ⟨c, r, rfl, decDigits_dig n c (by rw [h]; simp)⟩
theorem itoa_ne_nil (n : Int) : itoa n ≠ [] := by
 by_cases h : n < 0
 ·rw [itoa_neg h]; simp
 ·rw [itoa_nonneg (by omega)]; exact decDigits_ne_nil _
theorem itoa_len_pos (n : Int) : 0 < (itoa n).length := List.length_pos_iff.2 (itoa_ne_nil n)
theorem itoa_head (n : Int) : (n < 0 /\ ∃ r, itoa n = 45 :: r) \/ (0 <= n /\ ∃ c r, itoa n = c :: r /\ isDig c) := by
 by_cases h : n < 0
 ·exact .inl ⟨h, _, itoa_neg h⟩
 ·refine .inr ⟨by omega, ?_⟩
  rw [itoa_nonneg (by omega)]; exact dec_head_dig _
theorem dig_ne_45 {c : UInt8} (h : isDig c) : c ≠ 45 := by
 intro e; subst e; revert h; decide
theorem dig_ne_47 {c : UInt8} (h : isDig c) : c ≠ 47 := by
 intro e; subst e; revert h; decide
theorem itoa_hasMinus (n : Int) : hasPrefix (itoa n) [45] = decide (n < 0) := by
 rcases itoa_head n with ⟨h, r, e⟩ | ⟨h, c, r, e, hc⟩
 ·rw [e]; simp [hasPrefix, h]
 ·rw [e]
  have h1 := dig_ne_45 hc;have : ¬ n < 0 := by omega
  have h2 : (45 == c) = false := by simpa using fun e => h1 (Eq.symm e)
  simp only [hasPrefix, this, decide_false, List.isPrefixOf, h2, Bool.false_and]
theorem itoa_no47 (n : Int) : ∀ c ∈ itoa n, c ≠ 47 := by
 intro c hc;by_cases h : n < 0
 ·rw [itoa_neg h] at hc
  simp only [List.mem_cons] at hc;rcases hc with rfl | hc
  ·decide
  ·exact dig_ne_47 (decDigits_dig _ c hc)
 ·rw [itoa_nonneg (by omega)] at hc
  exact dig_ne_47 (decDigits_dig _ c hc)
theorem itoa_inj {a b : Int} (h : itoa a = itoa b) : a = b := by
 rcases itoa_head a with ⟨ha, r, e⟩ | ⟨ha, c, r, e, hc⟩ <;> rcases itoa_head b with ⟨hb, s, f⟩ | ⟨hb, d, s, f, hd⟩
 ·rw [itoa_neg ha, itoa_neg hb] at h
  have := decDigits_inj (List.cons.inj h).2;omega
 ·rw [e, f] at h
  exact absurd (List.cons.inj h).1.symm (dig_ne_45 hd)
 ·rw [e, f] at h
  exact absurd (List.cons.inj h).1 (dig_ne_45 hc)
 ·rw [itoa_nonneg ha, itoa_nonneg hb] at h
  have := decDigits_inj h;omega
theorem itoa_zero : itoa 0 = [48] := by rw [itoa_nonneg (by omega)]; exact decDigits_zero
theorem itoa_one : itoa 1 = [49] := by rw [itoa_nonneg (by omega)]; show decDigits 1 = _; rw [decDigits_one (by omega)]; rfl
theorem IS_zero : IS 0 = ⟨#[48]⟩ := by unfold IS; rw [itoa_zero]
theorem IS_one : IS 1 = ⟨#[49]⟩ := by unfold IS; rw [itoa_one]
theorem itoa_eq48 (n : Int) : (itoa n == [48]) = decide (n = 0) := by
 by_cases h : n = 0
 ·subst h; rw [itoa_zero]; rfl
 ·have : itoa n ≠ [48] := fun e => h (itoa_inj (e.trans itoa_zero.symm))
  simp [this, h]
theorem itoa_eq49 (n : Int) : (itoa n == [49]) = decide (n = 1) := by
 by_cases h : n = 1
 ·subst h; rw [itoa_one]; rfl
 ·have : itoa n ≠ [49] := fun e => h (itoa_inj (e.trans itoa_one.symm))
  simp [this, h]
theorem itoa_natAbs (n : Int) : itoa n = if n < 0 then 45 :: decDigits n.natAbs else decDigits n.natAbs := by
 by_cases h : n < 0
 ·rw [if_pos h, itoa_neg h]
 ·rw [if_neg h, itoa_nonneg (by omega)]
theorem itoa_drop_neg {n : Int} (h : n < 0) : (itoa n).drop 1 = itoa (-n) := by
 rw [itoa_neg h, itoa_nonneg (by omega)]; simp
theorem itoa_cons_neg {n : Int} (h : 0 < n) : 45 :: itoa n = itoa (-n) := by
 rw [itoa_neg (show -n < 0 by omega), itoa_nonneg (by omega)]; simp
theorem itoa_trim (n : Int) : trimPrefix (itoa n) [45] = decDigits n.natAbs := by
 unfold trimPrefix;rw [itoa_hasMinus];by_cases h : n < 0
 ·rw [if_pos (by simpa using h), itoa_neg h]; simp
 ·rw [if_neg (by simpa using h), itoa_nonneg (by omega)]
theorem itoa_len (n : Int) : (itoa n).length = (if n < 0 then 1 else 0) + nDigits n.natAbs := by
 rw [itoa_natAbs];split
 ·simp [decDigits_length]; omega
 ·simp [decDigits_length]
theorem itoa_len_le {n : Int} {k : Nat} (hk : 0 < k) (h : n.natAbs < 10 ^ k) : (itoa n).length <= k + 1 := by
 rw [itoa_len];have := (nDigits_le_iff n.natAbs k hk).2 h;split <;> omega
theorem natAbs_lt_of_len {n : Int} {k : Nat} (hk : 0 < k) (h : (itoa n).length <= k) : n.natAbs < 10 ^ k := by
 rw [itoa_len] at h;exact (nDigits_le_iff n.natAbs k hk).1 (by split at h <;> omega)
theorem decFrom_dig (l : List UInt8) (h : ∀ c ∈ l, isDig c) : ∀ acc, decFrom acc l = some (acc * 10 ^ l.length + dval l) := by
 induction l with
 | nil => intro acc; simp [decFrom, dval]
 | cons c r ih =>
   intro acc;have hc := h c (by simp);have hv : digitVal c = some (c.toNat - 48) := by unfold digitVal; rw [if_pos (show 48 <= c.toNat /\ c.toNat <= 57 from hc)]
   simp only [decFrom, hv];rw [ih (fun x hx => h x (by simp [hx])), dval_cons, List.length_cons, Nat.pow_succ];congr 1;grind
theorem decNat_dig {l : List UInt8} (h : ∀ c ∈ l, isDig c) (hne : l ≠ []) : decNat l = some (dval l) := by
 unfold decNat;rw [if_neg (by simpa using hne), decFrom_dig l h];simp
theorem atoi_itoa (n : Int) : atoi (itoa n) = some n := by
 rcases itoa_head n with ⟨h, r, e⟩ | ⟨h, c, r, e, hc⟩
 ·rw [itoa_neg h]
  simp only [atoi, beq_self_eq_true, if_true];rw [decNat_dig (decDigits_dig _) (decDigits_ne_nil _), dval_decDigits];simp; omega
 ·have h1 := dig_ne_45 hc
  have h2 : c ≠ 43 := by intro e; subst e; revert hc; decide
  have hd : ∀ x ∈ c :: r, isDig x := by
   rw [<- e, itoa_nonneg h]; exact decDigits_dig _
  rw [e];simp only [atoi, beq_iff_eq, h1, h2, if_false];rw [decNat_dig hd (by simp), <- e, itoa_nonneg h, dval_decDigits];simp; omega
theorem parseUintM_dig (M : Nat) (l : List UInt8) (h : ∀ c ∈ l, isDig c) : ∀ acc, acc * 10 ^ l.length + dval l <= M -> M <= 18446744073709551615 ->
 parseUintM M acc l = .ok (acc * 10 ^ l.length + dval l) := by
 induction l with
 | nil => intro acc _ _; simp [parseUintM, dval]
 | cons c r ih =>
   intro acc hM hM2;have hc := h c (by simp);rw [dval_cons, List.length_cons, Nat.pow_succ] at hM;have hpos : 1 <= 10 ^ r.length := Nat.one_le_pow _ _ (by omega);have e : acc * (10 ^ r.length * 10) + ((c.toNat - 48) * 10 ^ r.length + dval r) = (acc * 10 + (c.toNat - 48)) * 10 ^ r.length + dval r := by grind
   rw [e] at hM;have h3 : (acc * 10 + (c.toNat - 48)) * 1 <= (acc * 10 + (c.toNat - 48)) * 10 ^ r.length := Nat.mul_le_mul_left _ hpos;simp only [parseUintM];rw [if_pos (show 48 <= c.toNat /\ c.toNat <= 57 from hc), if_neg (by omega), if_neg (by omega), ih (fun x hx => h x (by simp [hx])) _ hM hM2, dval_cons, List.length_cons, Nat.pow_succ, e]
theorem parseUintB_dig {l : List UInt8} (h : ∀ c ∈ l, isDig c) (hne : l ≠ []) (hl : l.length <= 9) : parseUintB 64 l = .ok (dval l) := by
 unfold parseUintB;rw [if_neg hne, parseUintM_dig _ l h 0 ?_ (by decide)]
 ·simp
 ·have h1 := dval_lt l h
  have h2 : 10 ^ l.length <= 10 ^ 9 := Nat.pow_le_pow_right (by omega) hl;omega
def canonB (l : List UInt8) : Bool :=
 let s := trimPrefix l [45]
 !s.isEmpty && !(s.head? == some 48 && (1 < s.length || hasPrefix l [45])) && s.all (fun c => decide (isDig c))
theorem canonB_itoa (n : Int) : canonB (itoa n) = true := by
 unfold canonB;rw [itoa_trim, itoa_hasMinus];have h1 := decDigits_ne_nil n.natAbs;have h3 : (decDigits n.natAbs).all (fun c => decide (isDig c)) = true := by
  rw [List.all_eq_true]; intro c hc; simpa using decDigits_dig _ c hc
 rcases Nat.eq_zero_or_pos n.natAbs with h0 | h0
 ·have : n = 0 := by omega
  subst this;simp [decDigits_zero];decide
 ·obtain ⟨c, r, e, hc, _⟩ := decDigits_pos_head n.natAbs h0
  have h48 : c ≠ 48 := by intro e; subst e; revert hc; decide
  simp only [h3, Bool.and_true];rw [e];simp [h48]
theorem canonB_val {l : List UInt8} (h : canonB l = true) : ∃ n : Int, l = itoa n := by
 unfold canonB at h;simp only [Bool.and_eq_true, Bool.not_eq_true', List.isEmpty_eq_false_iff] at h;obtain ⟨⟨h1, h2⟩, h3⟩ := h;have hd : ∀ c ∈ trimPrefix l [45], isDig c := by
  rw [List.all_eq_true] at h3; intro c hc; simpa using h3 c hc
 have hz : ∀ c r, trimPrefix l [45] = c :: r -> c.toNat = 48 -> r = [] := by
  intro c r e h48;have hc : c = 48 := UInt8.toNat_inj.1 (by rw [h48]; rfl);subst hc;rw [e] at h2;simp at h2;cases r with
  | nil => rfl
  | cons d r => simp at h2
 have hv := decDigits_dval _ hd h1 hz;cases hm : hasPrefix l [45] with
 | true =>
   obtain ⟨r, hr⟩ : ∃ r, l = 45 :: r := by
    cases l with
    | nil => simp [hasPrefix] at hm
    | cons c r =>
      simp [hasPrefix] at hm;exact ⟨r, by rw [<- hm]⟩
   subst hr;have ht : trimPrefix (45 :: r) [45] = r := by simp [trimPrefix, hasPrefix]
   rw [ht] at hv h2 h1;have hpos : 0 < dval r := by
    rcases Nat.eq_zero_or_pos (dval r) with h0 | h0
    ·rw [h0, decDigits_zero] at hv
     rw [<- hv] at h2;simp [hasPrefix] at h2
    ·exact h0
   refine ⟨-(dval r : Int), ?_⟩;rw [itoa_neg (by omega)];simp [hv]
 | false =>
   have ht : trimPrefix l [45] = l := by simp [trimPrefix, hm]
   rw [ht] at hv;exact ⟨(dval l : Int), by rw [itoa_nat, hv]⟩
theorem compareBytes_dig (l r : List UInt8) (hl : ∀ c ∈ l, isDig c) (hr : ∀ c ∈ r, isDig c) (h : l.length = r.length) :
 compareBytes l r = if dval l < dval r then -1 else if dval r < dval l then 1 else 0 := by
 induction l generalizing r with
 | nil =>
   obtain rfl := List.length_eq_zero_iff.1 h.symm;simp [compareBytes, dval]
 | cons c l ih =>
   cases r with
   | nil => simp at h
   | cons d r =>
     have hc := hl c (by simp);have hd := hr d (by simp);have hlen : l.length = r.length := by simpa using h
     have i1 := dval_lt l (fun x hx => hl x (by simp [hx]));have i2 := dval_lt r (fun x hx => hr x (by simp [hx]));rw [<- hlen] at i2;simp only [compareBytes];rw [ih r (fun x hx => hl x (by simp [hx])) (fun x hx => hr x (by simp [hx])) hlen, dval_cons, dval_cons, <- hlen];generalize 10 ^ l.length = P at *;unfold isDig at hc hd;have lt_iff : ∀ a b : UInt8, a < b ↔ a.toNat < b.toNat := fun a b => UInt8.lt_iff_toNat_lt;simp only [lt_iff];rcases Nat.lt_trichotomy c.toNat d.toNat with e | e | e
     ·have : (c.toNat - 48 + 1) * P <= (d.toNat - 48) * P := Nat.mul_le_mul_right _ (by omega)
      rw [Nat.add_mul] at this;rw [if_pos e, if_pos (by omega)]
     ·rw [if_neg (by omega), if_neg (by omega), e]
      congr 1
      ·simp
      ·congr 1
       simp
     ·have : (d.toNat - 48 + 1) * P <= (c.toNat - 48) * P := Nat.mul_le_mul_right _ (by omega)
      rw [Nat.add_mul] at this;rw [if_neg (by omega), if_pos e, if_neg (by omega), if_pos (by omega)]
def RL (q : Rat) : List UInt8 := if q.den = 1 then itoa q.num else itoa q.num ++ 47 :: decDigits q.den
def RS (q : Rat) : ByteArray := ⟨(RL q).toArray⟩
theorem RS_list (q : Rat) : (RS q).data.toList = RL q := by simp [RS]
theorem RS_size (q : Rat) : (RS q).size = (RL q).length := by simp [RS, ByteArray.size]
theorem RL_one_den {q : Rat} (h : q.den = 1) : RL q = itoa q.num := by rw [RL, if_pos h]
theorem RL_den {q : Rat} (h : q.den ≠ 1) : RL q = itoa q.num ++ 47 :: decDigits q.den := by rw [RL, if_neg h]
theorem idx47_none {l : List UInt8} (h : ∀ c ∈ l, c ≠ 47) : indexByte l 47 = -1 := by
 induction l with
 | nil => rfl
 | cons c r ih =>
   have h1 := h c (by simp);simp [indexByte, h1, ih (fun x hx => h x (by simp [hx]))]
theorem idx47_some {l r : List UInt8} (h : ∀ c ∈ l, c ≠ 47) : indexByte (l ++ 47 :: r) 47 = l.length := by
 induction l with
 | nil => simp [indexByte]
 | cons c l ih =>
   have h1 := h c (by simp);have h2 := ih (fun x hx => h x (by simp [hx]));simp only [List.cons_append, indexByte, beq_iff_eq, h1, if_false, h2, List.length_cons];rw [if_neg (by simp)];simp
theorem RL_inj {p q : Rat} (h : RL p = RL q) : p = q := by
 have i1 := itoa_no47 p.num;have i2 := itoa_no47 q.num;by_cases hp : p.den = 1 <;> by_cases hq : q.den = 1
 ·rw [RL_one_den hp, RL_one_den hq] at h
  exact Rat.ext (itoa_inj h) (by rw [hp, hq])
 ·rw [RL_one_den hp, RL_den hq] at h
  exact absurd rfl (i1 47 (by rw [h]; simp))
 ·rw [RL_den hp, RL_one_den hq] at h
  exact absurd rfl (i2 47 (by rw [<- h]; simp))
 ·rw [RL_den hp, RL_den hq] at h
  have e1 := idx47_some (r := decDigits p.den) i1;have e2 := idx47_some (r := decDigits q.den) i2;rw [h, e2] at e1;have hl : (itoa p.num).length = (itoa q.num).length := by omega
  have := List.append_inj h hl;have h2 := decDigits_inj (List.cons.inj this.2).2;exact Rat.ext (itoa_inj this.1) h2
theorem RS_inj {p q : Rat} (h : RS p = RS q) : p = q := RL_inj (by rw [<- RS_list, h, RS_list])
theorem RL_ne_nil (q : Rat) : RL q ≠ [] := by
 unfold RL;split
 ·exact itoa_ne_nil _
 ·simp
theorem RL_len_pos (q : Rat) : 0 < (RL q).length := List.length_pos_iff.2 (RL_ne_nil q)
theorem RL_zero : RL 0 = [48] := by rw [RL_one_den (by rfl)]; exact itoa_zero
theorem RL_one : RL 1 = [49] := by rw [RL_one_den (by rfl)]; exact itoa_one
theorem RS_zero : RS 0 = ⟨#[48]⟩ := by unfold RS; rw [RL_zero]
theorem RS_one : RS 1 = ⟨#[49]⟩ := by unfold RS; rw [RL_one]
theorem RL_beq (p q : Rat) : (RL p == RL q) = decide (p = q) := by
 by_cases h : p = q
 ·subst h; simp
 ·have : RL p ≠ RL q := fun e => h (RL_inj e)
  simp [this, h]
theorem RL_eq48 (q : Rat) : (RL q == [48]) = decide (q = 0) := by rw [<- RL_zero, RL_beq]
theorem RL_eq49 (q : Rat) : (RL q == [49]) = decide (q = 1) := by rw [<- RL_one, RL_beq]
theorem RL_neg (q : Rat) (h : q.num < 0) : (RL q).drop 1 = RL (-q) := by
 have e := itoa_drop_neg h;have hne : itoa q.num = 45 :: (itoa q.num).drop 1 := by rw [itoa_neg h]; simp
 by_cases hd : q.den = 1
 ·rw [RL_one_den hd, RL_one_den (by rw [Rat.neg_den]; exact hd), Rat.neg_num, e]
 ·rw [RL_den hd, RL_den (by rw [Rat.neg_den]; exact hd), Rat.neg_num, Rat.neg_den, <- e]
  conv => lhs; rw [hne]
  simp
theorem RL_pos (q : Rat) (h : 0 < q.num) : 45 :: RL q = RL (-q) := by
 have e := itoa_cons_neg h;by_cases hd : q.den = 1
 ·rw [RL_one_den hd, RL_one_den (by rw [Rat.neg_den]; exact hd), Rat.neg_num, e]
 ·rw [RL_den hd, RL_den (by rw [Rat.neg_den]; exact hd), Rat.neg_num, Rat.neg_den, <- e]
  simp
theorem num_lt_zero_iff {q : Rat} : q.num < 0 ↔ q < 0 := by
 have := @Rat.num_nonneg q;have h2 := @Rat.not_lt q 0;constructor
 ·intro h
  refine Classical.byContradiction fun hc => ?_
  have := this.2 (Rat.not_lt.1 hc);omega
 ·intro h
  refine Classical.byContradiction fun hc => ?_
  have h3 := this.1 (by omega);exact Rat.not_lt.2 h3 h
theorem num_pos_iff {q : Rat} : 0 < q.num ↔ 0 < q := by
 have h1 := @Rat.num_nonneg q;have h2 := @Rat.num_eq_zero q;constructor
 ·intro h
  refine Classical.byContradiction fun hc => ?_
  have h3 := Rat.not_lt.1 hc;have h4 : q = 0 := Rat.le_antisymm h3 (h1.1 (by omega));have := h2.2 h4;omega
 ·intro h
  refine Classical.byContradiction fun hc => ?_
  have h3 := h1.2 (Rat.le_of_lt h);have h4 : q = 0 := h2.1 (by omega);rw [h4] at h;exact Rat.lt_irrefl h
theorem cut_itoa (n : Int) : indexByte (itoa n) 47 = -1 := idx47_none (itoa_no47 n)
theorem RL_idx_one {q : Rat} (h : q.den = 1) : indexByte (RL q) 47 = -1 := by rw [RL_one_den h]; exact cut_itoa _
theorem RL_idx_den {q : Rat} (h : q.den ≠ 1) : indexByte (RL q) 47 = (itoa q.num).length := by rw [RL_den h]; exact idx47_some (itoa_no47 _)
theorem RL_mkRat (n : Int) (d : Nat) (hd : d ≠ 0) : RL (mkRat n d) =
 if d / Nat.gcd n.natAbs d = 1 then itoa (n / (Nat.gcd n.natAbs d : Nat)) else itoa (n / (Nat.gcd n.natAbs d : Nat)) ++ 47 :: decDigits (d / Nat.gcd n.natAbs d) := by
 unfold RL;rw [Rat.num_mkRat, Rat.den_mkRat, if_neg hd, if_neg hd, Nat.gcd_comm]
def Sz (k : Nat) (q : Rat) : Prop := q.num.natAbs < 10 ^ k /\ q.den < 10 ^ k
theorem Sz.mono {j k : Nat} {q : Rat} (h : Sz j q) (hjk : j <= k) : Sz k q :=
 ⟨Nat.lt_of_lt_of_le h.1 (Nat.pow_le_pow_right (by omega) hjk), Nat.lt_of_lt_of_le h.2 (Nat.pow_le_pow_right (by omega) hjk)⟩
theorem Sz.mkRat {k : Nat} {n : Int} {d : Nat} (hd : d ≠ 0) (h1 : n.natAbs < 10 ^ k) (h2 : d < 10 ^ k) : Sz k (mkRat n d) := by
 unfold Sz;rw [Rat.num_mkRat, Rat.den_mkRat, if_neg hd, if_neg hd];have hg : 0 < Nat.gcd d n.natAbs := Nat.gcd_pos_of_pos_left _ (by omega);refine ⟨?_, Nat.lt_of_le_of_lt (Nat.div_le_self _ _) h2⟩;obtain ⟨m, hm⟩ := Nat.gcd_dvd_right d n.natAbs;have hn : n = ((Nat.gcd d n.natAbs : Nat) : Int) * (n.sign * m) := by
  conv => lhs; rw [<- Int.sign_mul_natAbs n, hm]
  push_cast;grind
 have hq : n / ((Nat.gcd d n.natAbs : Nat) : Int) = n.sign * m := Int.ediv_eq_of_eq_mul_right (by omega) hn;rw [hq, Int.natAbs_mul];have h3 : n.sign.natAbs <= 1 := by
  rcases Int.lt_trichotomy n 0 with h | h | h
  ·rw [Int.sign_eq_neg_one_of_neg h]; decide
  ·subst h; decide
  ·rw [Int.sign_eq_one_of_pos h]; decide
 have h4 : m <= n.natAbs := by
  conv => rhs; rw [hm]
  exact Nat.le_mul_of_pos_left _ hg
 have h5 : n.sign.natAbs * m <= 1 * m := Nat.mul_le_mul_right _ h3;simp at h5 ⊢;omega
theorem Sz.zero (k : Nat) (hk : 0 < k) : Sz k 0 := ⟨Nat.pow_pos (by omega), by
 have : 10 ^ 1 <= 10 ^ k := Nat.pow_le_pow_right (by omega) hk;show 1 < 10 ^ k;omega⟩
theorem Sz.neg {k : Nat} {q : Rat} (h : Sz k q) : Sz k (-q) := by
 unfold Sz at *;rw [Rat.neg_num, Rat.neg_den, Int.natAbs_neg]; exact h
theorem pow_add_lt {a b k j : Nat} (h1 : a < 10 ^ k) (h2 : b < 10 ^ j) : a * b < 10 ^ (k + j) := by
 rw [Nat.pow_add];rcases Nat.eq_zero_or_pos b with rfl | hb
 ·rw [Nat.mul_zero]; exact Nat.mul_pos (Nat.pow_pos (by omega)) (Nat.pow_pos (by omega))
 ·exact Nat.mul_lt_mul_of_lt_of_le h1 (Nat.le_of_lt h2) (Nat.pow_pos (by omega))
theorem Sz.mul {j k : Nat} {p q : Rat} (hp : Sz j p) (hq : Sz k q) : Sz (j + k) (p * q) := by
 rw [Rat.mul_def'];refine Sz.mkRat (Nat.mul_ne_zero p.den_nz q.den_nz) ?_ (pow_add_lt hp.2 hq.2);rw [Int.natAbs_mul]; exact pow_add_lt hp.1 hq.1
theorem Sz.add {j k : Nat} {p q : Rat} (hp : Sz j p) (hq : Sz k q) : Sz (j + k + 1) (p + q) := by
 rw [Rat.add_def'];refine Sz.mkRat (Nat.mul_ne_zero p.den_nz q.den_nz) ?_ ?_
 ·have h1 : (p.num * q.den).natAbs < 10 ^ (j + k) := by rw [Int.natAbs_mul]; exact pow_add_lt hp.1 (by simpa using hq.2)
  have h2 : (q.num * p.den).natAbs < 10 ^ (j + k) := by rw [Int.natAbs_mul, Nat.add_comm j k]; exact pow_add_lt hq.1 (by simpa using hp.2)
  have h3 := Int.natAbs_add_le (p.num * q.den) (q.num * p.den);rw [Nat.pow_succ]; omega
 ·have := pow_add_lt hp.2 hq.2
  rw [Nat.pow_succ]; omega
theorem Sz.sub {j k : Nat} {p q : Rat} (hp : Sz j p) (hq : Sz k q) : Sz (j + k + 1) (p - q) := by
 rw [Rat.sub_eq_add_neg]; exact hp.add hq.neg
theorem Sz.inv {k : Nat} {q : Rat} (h : Sz k q) (hk : 0 < k) : Sz k q⁻¹ := by
 by_cases h0 : q = 0
 ·subst h0; rw [Rat.inv_zero]; exact Sz.zero k hk
 ·have hn : q.num ≠ 0 := fun e => h0 (Rat.num_eq_zero.1 e)
  rw [Rat.inv_def];have e : Rat.divInt (q.den : Int) q.num = _root_.mkRat (q.num.sign * (q.den : Int)) q.num.natAbs := by
   rcases Int.lt_trichotomy q.num 0 with h1 | h1 | h1
   ·rw [Int.sign_eq_neg_one_of_neg h1]
    obtain ⟨m, hm⟩ : ∃ m : Nat, q.num = -(m : Int) := ⟨q.num.natAbs, by omega⟩;rw [hm, Rat.divInt_neg'];simp [Rat.divInt_ofNat, Int.natAbs_neg]
   ·exact absurd h1 hn
   ·rw [Int.sign_eq_one_of_pos h1]
    obtain ⟨m, hm⟩ : ∃ m : Nat, q.num = (m : Int) := ⟨q.num.natAbs, by omega⟩;rw [hm];simp [Rat.divInt_ofNat]
  rw [e];refine Sz.mkRat (by omega) ?_ h.1;rw [Int.natAbs_mul];have h3 : q.num.sign.natAbs <= 1 := by
   rcases Int.lt_trichotomy q.num 0 with h1 | h1 | h1
   ·rw [Int.sign_eq_neg_one_of_neg h1]; decide
   ·rw [h1]; decide
   ·rw [Int.sign_eq_one_of_pos h1]; decide
  have h5 : q.num.sign.natAbs * q.den <= 1 * q.den := Nat.mul_le_mul_right _ h3;have := h.2;simp at h5 ⊢;omega
theorem Sz.div {j k : Nat} {p q : Rat} (hp : Sz j p) (hq : Sz k q) (hk : 0 < k) : Sz (j + k) (p / q) := by
 rw [Rat.div_def]; exact hp.mul (hq.inv hk)
theorem RL_len_le {k : Nat} {q : Rat} (hk : 0 < k) (h : Sz k q) : (RL q).length <= 2 * k + 2 := by
 have h1 := itoa_len_le hk h.1;have h2 := (len_decDigits_le q.den k hk).2 h.2;unfold RL;split
 ·omega
 ·simp; omega
def B4 : Nat := 10000
theorem two_le_B4 : 2 <= B4 := by decide
def ival : List Int -> Int
 | [] => 0
 | x :: l => x + 10000 * ival l
theorem ival_snoc (l : List Int) (x : Int) : ival (l ++ [x]) = ival l + x * 10000 ^ l.length := by
 induction l with
 | nil => simp [ival]
 | cons y l ih =>
   rw [List.cons_append, ival, ih, ival, List.length_cons, Int.pow_succ];grind
theorem ival_set (l : List Int) (i : Nat) (y : Int) (h : i < l.length) : ival (l.set i y) = ival l + (y - l[i]) * 10000 ^ i := by
 induction l generalizing i with
 | nil => simp at h
 | cons x l ih =>
   cases i with
   | zero => simp [ival]; omega
   | succ i =>
     simp only [List.set_cons_succ, ival, List.getElem_cons_succ];rw [ih i (by simpa using h), Int.pow_succ];grind
theorem ival_replicate (n : Nat) : ival (List.replicate n 0) = 0 := by
 induction n with
 | zero => rfl
 | succ n ih => rw [List.replicate_succ, ival, ih]; rfl
theorem ival_take_succ (l : List Int) (k : Nat) (h : k < l.length) : ival (l.take (k + 1)) = ival (l.take k) + l[k] * 10000 ^ k := by
 rw [List.take_succ_eq_append_getElem h, ival_snoc, List.length_take, Nat.min_eq_left (by omega)]
def CarryInv (p : List Int) (k : Nat) (over : Int) (o : List Nat) : Prop :=
 o.length = k /\ (∀ z ∈ o, z < B4) /\ (lval B4 o : Int) + over * 10000 ^ k = ival (p.take k) /\ -100000000000000000 <= over /\ over <= 100000000000000000
theorem CarryInv.start (p : List Int) : CarryInv p 0 0 [] := ⟨rfl, by simp, by simp [lval, ival], by decide, by decide⟩
theorem carry_digit {s n : Int} (hn : n = s % 10000) : 0 <= n /\ n < 10000 /\ s = n + 10000 * (s / 10000) := by omega
theorem CarryInv.step {p : List Int} {k : Nat} {over s : Int} {o : List Nat} (h : CarryInv p k over o) (hs : s = over + (p[k]?.getD 0))
 (hp : ∀ x ∈ p, -100000000000000000 <= x /\ x <= 100000000000000000) : CarryInv p (k + 1) (s / 10000) (o ++ [(s % 10000).toNat]) := by
 obtain ⟨h1, h2, h3, h4, h5⟩ := h;have hd := carry_digit (s := s) rfl;have hpk : -100000000000000000 <= p[k]?.getD 0 /\ p[k]?.getD 0 <= 100000000000000000 := by
  cases hh : p[k]? with
  | none => simp
  | some x => exact hp x (List.mem_of_getElem? hh)
 refine ⟨by simp [h1], ?_, ?_, by omega, by omega⟩
 ·intro z hz
  rcases List.mem_append.1 hz with hz | hz
  ·exact h2 z hz
  ·simp only [List.mem_cons, List.not_mem_nil, or_false] at hz
   unfold B4; omega
 ·rw [lval_snoc, h1]
  have e1 : ((s % 10000).toNat : Int) = s % 10000 := by omega
  have e2 : ival (p.take (k + 1)) = ival (p.take k) + (p[k]?.getD 0) * 10000 ^ k := by
   rcases Nat.lt_or_ge k p.length with hk | hk
   ·rw [ival_take_succ p k hk, List.getElem?_eq_getElem hk]; rfl
   ·rw [List.take_of_length_le (by omega), List.take_of_length_le (by omega), List.getElem?_eq_none hk]; simp
  have e3 : ((lval B4 o + (s % 10000).toNat * B4 ^ k : Nat) : Int) = (lval B4 o : Int) + (s % 10000) * 10000 ^ k := by
   rw [Int.natCast_add, Int.natCast_mul, e1, Int.natCast_pow]; rfl
  rw [e3, e2, <- h3, Int.pow_succ];have e4 := hd.2.2;generalize (10000 : Int) ^ k = P at *;generalize s % 10000 = n at *;generalize s / 10000 = m at *;grind
theorem CarryInv.done {p : List Int} {k : Nat} {o : List Nat} {n : Nat} (h : CarryInv p k 0 o) (hk : p.length <= k) (hn : ival p = n) : dropZ o = lm B4 n := by
 obtain ⟨h1, h2, h3, h4, h5⟩ := h;rw [List.take_of_length_le hk, hn] at h3;rw [dropZ_eq B4 two_le_B4 _ h2];congr 1;simp only [Int.zero_mul, Int.add_zero] at h3;exact_mod_cast h3
def QuoAt (B : Nat) (xs : List Nat) (b i : Nat) (q : List Nat) : Prop := q.length = xs.length /\ (∀ z ∈ q, z < B) /\ lval B (q.drop i) = lval B (xs.drop i) / b
theorem QuoAt.start {B : Nat} (hB : 0 < B) (xs : List Nat) (b : Nat) : QuoAt B xs b xs.length (List.replicate xs.length 0) := by
 refine ⟨by simp, fun z hz => ?_, ?_⟩
 ·rw [(List.mem_replicate.1 hz).2]; exact hB
 ·rw [List.drop_eq_nil_of_le (by simp), List.drop_eq_nil_of_le (Nat.le_refl _)]; simp [lval]
theorem drop_step_lval {B : Nat} {xs : List Nat} {i : Nat} (h : i < xs.length) : lval B (xs.drop i) = xs[i] + B * lval B (xs.drop (i + 1)) := by
 rw [List.drop_eq_getElem_cons h]; rfl
theorem rest_lt {B r b x : Nat} (hr : r < b) (hx : x < B) : (r * B + x) / b < B := by
 apply Nat.div_lt_of_lt_mul;have h4 : (r + 1) * B <= b * B := Nat.mul_le_mul_right _ hr;rw [Nat.add_mul] at h4;omega
theorem QuoAt.step {B : Nat} {xs : List Nat} {b i r d : Nat} {q : List Nat} (hb : 0 < b) (hx : ∀ x ∈ xs, x < B) (h : QuoAt B xs b (i + 1) q) (hi : i < xs.length)
 (hr : r = lval B (xs.drop (i + 1)) % b) (hd : d = (r * B + xs[i]) / b) : QuoAt B xs b i (q.set i d) := by
 obtain ⟨h1, h2, h3⟩ := h;have hrb : r < b := by rw [hr]; exact Nat.mod_lt _ hb
 refine ⟨by simp [h1], fun z hz => ?_, ?_⟩
 ·rcases List.mem_or_eq_of_mem_set hz with hz | rfl
  ·exact h2 z hz
  ·rw [hd]; exact rest_lt hrb (hx _ (List.getElem_mem hi))
 ·have hi2 : i < (q.set i d).length := by simp; omega
  rw [drop_step_lval hi2, drop_step_lval hi, List.getElem_set_self, List.drop_set_of_lt (by omega), h3, hd, hr];have := Nat.div_add_mod (lval B (xs.drop (i + 1))) b;generalize lval B (xs.drop (i + 1)) = n at *;generalize n % b = m at *;generalize n / b = e at *;subst this;rw [show xs[i] + B * (b * e + m) = (m * B + xs[i]) + b * (B * e) by grind, Nat.add_mul_div_left _ _ hb]
theorem QuoAt.done {B : Nat} (hB : 2 <= B) {xs : List Nat} {b : Nat} {q : List Nat} (h : QuoAt B xs b 0 q) : dropZ q = lm B (lval B xs / b) := by
 obtain ⟨h1, h2, h3⟩ := h;rw [List.drop_zero, List.drop_zero] at h3;rw [dropZ_eq B hB _ h2, h3]
def TakeInv (s : List UInt8) (m k : Nat) (o : List Nat) : Prop := o.length = k /\ (∀ z ∈ o, z < B4) /\ lval B4 o + dval (s.take m) * B4 ^ k = dval s
theorem TakeInv.start (s : List UInt8) : TakeInv s s.length 0 [] := ⟨rfl, by simp, by simp [lval]⟩
theorem TakeInv.step {s : List UInt8} {m k x : Nat} {o : List Nat} (hd : ∀ c ∈ s, isDig c) (h : TakeInv s m k o) (hm : m <= s.length) (hx : x = dval ((s.take m).drop (m - 4))) :
 TakeInv s (m - 4) (k + 1) (o ++ [x]) := by
 obtain ⟨h1, h2, h3⟩ := h;have hl : ((s.take m).drop (m - 4)).length = min 4 m := by simp; omega
 have hdig : ∀ c ∈ (s.take m).drop (m - 4), isDig c := fun c hc => hd c (List.mem_of_mem_take (List.mem_of_mem_drop hc));have hlt := dval_lt _ hdig;rw [hl, <- hx] at hlt;have hx4 : x < B4 := by
  refine Nat.lt_of_lt_of_le hlt ?_;show 10 ^ (min 4 m) <= 10 ^ 4;exact Nat.pow_le_pow_right (by decide) (Nat.min_le_left _ _)
 have e : s.take m = s.take (m - 4) ++ (s.take m).drop (m - 4) := by
  conv => lhs; rw [<- List.take_append_drop (m - 4) (s.take m)]
  rw [List.take_take, Nat.min_eq_left (by omega)]
 have e2 : dval (s.take m) = dval (s.take (m - 4)) * B4 + x := by
  rw [e, dval_append, hl, <- hx];rcases Nat.lt_or_ge m 4 with h4 | h4
  ·rw [show m - 4 = 0 by omega]; simp [dval]
  ·rw [Nat.min_eq_left h4]; rfl
 refine ⟨by simp [h1], fun z hz => ?_, ?_⟩
 ·rcases List.mem_append.1 hz with hz | hz
  ·exact h2 z hz
  ·simp only [List.mem_cons, List.not_mem_nil, or_false] at hz
   omega
 ·rw [lval_snoc, h1, <- h3, e2, Nat.pow_succ]
  grind
theorem TakeInv.done {s : List UInt8} {k : Nat} {o : List Nat} (h : TakeInv s 0 k o) : dropZ o = lm B4 (dval s) := by
 obtain ⟨h1, h2, h3⟩ := h;rw [dropZ_eq B4 two_le_B4 _ h2, <- h3];simp [dval]
def TimesR (p q : List Nat) (i k : Nat) (o : List Int) : Prop :=
 o.length = p.length + q.length /\ (∀ (j : Nat) (h : j < o.length), 0 <= o[j] /\ o[j] <= (i : Int) * 100000000 + (if j < i + k then 100000000 else 0)) /\
  ival o = (lval B4 (p.take i) : Int) * (lval B4 q : Int) + ((p[i]?.getD 0 : Nat) : Int) * (lval B4 (q.take k) : Int) * 10000 ^ i
theorem TimesR.start (p q : List Nat) : TimesR p q 0 0 (List.replicate (p.length + q.length) 0) := by
 refine ⟨List.length_replicate, fun j h => ?_, ?_⟩
 ·rw [List.getElem_replicate]
  refine ⟨Int.le_refl _, ?_⟩;split <;> omega
 ·rw [ival_replicate]; simp only [lval, List.take_zero]; omega
theorem TimesR.step {p q : List Nat} {i k : Nat} {o : List Int} {y : Int} (hp : ∀ x ∈ p, x < B4) (hq : ∀ x ∈ q, x < B4) (h : TimesR p q i k o) (hi : i < p.length) (hk : k < q.length) (hik : i + k < o.length)
 (hy : y = o[i + k] + (p[i] : Int) * (q[k] : Int)) : TimesR p q i (k + 1) (o.set (i + k) y) := by
 obtain ⟨h1, h2, h3⟩ := h;have hpi := hp _ (List.getElem_mem hi);have hqk := hq _ (List.getElem_mem hk);have hm : p[i] * q[k] <= 9999 * 9999 := Nat.mul_le_mul (by unfold B4 at hpi; omega) (by unfold B4 at hqk; omega);have hm2 : (p[i] : Int) * (q[k] : Int) <= 99980001 := by rw [<- Int.natCast_mul]; omega
 have hm3 : 0 <= (p[i] : Int) * (q[k] : Int) := Int.mul_nonneg (by omega) (by omega);refine ⟨by rw [List.length_set]; exact h1, fun j hj => ?_, ?_⟩
 ·rw [List.getElem_set]
  split
  ·rename_i e; subst e
   have := h2 (i + k) hik;rw [if_neg (by omega)] at this;rw [if_pos (by omega), hy];omega
  ·rename_i e
   have := h2 j (by simpa using hj);by_cases hjk : j < i + k
   ·rw [if_pos hjk] at this; rw [if_pos (by omega)]; exact this
   ·rw [if_neg hjk] at this; rw [if_neg (by omega)]; exact this
 ·rw [ival_set _ _ _ hik, h3, hy]
  have e : (lval B4 (q.take (k + 1)) : Int) = (lval B4 (q.take k) : Int) + (q[k] : Int) * 10000 ^ k := by
   rw [List.take_succ_eq_append_getElem hk, lval_snoc, List.length_take, Nat.min_eq_left (by omega), Int.natCast_add, Int.natCast_mul, Int.natCast_pow]; rfl
  rw [e, List.getElem?_eq_getElem hi, Int.pow_add];simp only [Option.getD_some];generalize (10000 : Int) ^ i = P;generalize (10000 : Int) ^ k = R;grind
theorem TimesR.next {p q : List Nat} {i : Nat} {o : List Int} (h : TimesR p q i q.length o) (hi : i < p.length) : TimesR p q (i + 1) 0 o := by
 obtain ⟨h1, h2, h3⟩ := h;refine ⟨h1, fun j hj => ?_, ?_⟩
 ·have := h2 j hj
  refine ⟨this.1, ?_⟩;have h5 : (if j < i + q.length then (100000000 : Int) else 0) <= 100000000 := by split <;> omega
  have h6 : (0 : Int) <= (if j < i + 1 + 0 then (100000000 : Int) else 0) := by split <;> omega
  have h7 : ((i + 1 : Nat) : Int) * 100000000 = (i : Int) * 100000000 + 100000000 := by omega
  omega
 ·rw [h3, List.take_length]
  have e : (lval B4 (p.take (i + 1)) : Int) = (lval B4 (p.take i) : Int) + (p[i] : Int) * 10000 ^ i := by
   rw [List.take_succ_eq_append_getElem hi, lval_snoc, List.length_take, Nat.min_eq_left (by omega), Int.natCast_add, Int.natCast_mul, Int.natCast_pow]; rfl
  rw [e, List.getElem?_eq_getElem hi];simp only [Option.getD_some, List.take_zero, lval];generalize (10000 : Int) ^ i = P;grind
theorem TimesR.val {p q : List Nat} {o : List Int} (h : TimesR p q p.length 0 o) : ival o = ((lval B4 p * lval B4 q : Nat) : Int) := by
 obtain ⟨h1, h2, h3⟩ := h;rw [h3, List.take_length];simp [lval]
abbrev Tri := Int × Int × Int
abbrev Edge := Int × Int
abbrev PtQ := Rat × Rat
def areaQ (a b c : PtQ) : Rat := (b.1 - a.1) * (c.2 - a.2) - (b.2 - a.2) * (c.1 - a.1)
def turnZ (a b c : PtQ) : Int := (areaQ a b c).num.sign
def revE (s : Edge) : Edge := (s.2, s.1)
def sidesOf (t : Tri) : List Edge := [(t.1, t.2.1), (t.2.1, t.2.2), (t.2.2, t.1)]
def idxOf (t : Tri) : List Int := [t.1, t.2.1, t.2.2]
def keysOf (T : List Tri) : List Edge := T.flatMap sidesOf
def bordOf (E : List Edge) : List Edge := E.filter fun s => !E.contains (revE s)
def nxtOf (B : List Edge) (a : Int) : Option Int := (B.find? fun s => s.1 == a).map (·.2)
def leastS (B : List Edge) : Int := B.foldl (fun m s => if m < 0 \/ s.1 < m then s.1 else m) (-1)
def chase (B : List Edge) (first : Int) : Nat -> Int -> List Int -> Option (List Int)
 | 0, _, out => some out
 | n + 1, a, out => match nxtOf B a with
   | none => none
   | some b => if a = first /\ out ≠ [] then none else chase B first n b (out ++ [a])
def outerL (E : List Edge) : List Int :=
 if ((bordOf E).map (·.1)).Nodup then (chase (bordOf E) (leastS (bordOf E)) (bordOf E).length (leastS (bordOf E)) []).getD [] else []
def addNew {α : Type} [DecidableEq α] (acc : List α) (x : α) : List α := if x ∈ acc then acc else acc ++ [x]
def distL {α : Type} [DecidableEq α] (l : List α) : List α := l.foldl addNew []
def usedN (T : List Tri) : Nat := (distL (T.flatMap idxOf)).length
def ptAt (P : List PtQ) (c : List Int) (i : Nat) : PtQ := P[(c[i % c.length]?.getD 0).toNat]?.getD (0, 0)
def upB (p q : PtQ) : Bool := decide (p.2 < q.2) || (decide (p.2 = q.2) && decide (p.1 < q.1))
def upAt (P : List PtQ) (c : List Int) (i : Nat) : Bool := upB (ptAt P c i) (ptAt P c (i + 1))
def bentAt (P : List PtQ) (c : List Int) (i : Nat) : Bool := decide (0 <= turnZ (ptAt P c i) (ptAt P c (i + 1)) (ptAt P c (i + 2)))
def riseAt (P : List PtQ) (c : List Int) (i : Nat) : Bool := !upAt P c i && upAt P c (i + 1)
def roundsN (P : List PtQ) (c : List Int) (k : Nat) : Nat := ((List.range k).filter (riseAt P c)).length
def onceB (P : List PtQ) (c : List Int) : Bool := (List.range c.length).all (bentAt P c) && decide (roundsN P c c.length = 1)
def wholeB (P : List PtQ) (T : List Tri) : Bool :=
 decide (keysOf T).Nodup && (!(outerL (keysOf T)).isEmpty && decide (usedN T = P.length) && onceB P (outerL (keysOf T)))
def moveP (s t d : Rat) (p : PtQ) : PtQ := ((p.1 + s) * d, (p.2 + t) * d)
theorem areaQ_move (s t d : Rat) (a b c : PtQ) : areaQ (moveP s t d a) (moveP s t d b) (moveP s t d c) = d * d * areaQ a b c := by
 unfold areaQ moveP;grind
theorem turnZ_move (s t d : Rat) (hd : 0 < d) (a b c : PtQ) : turnZ (moveP s t d a) (moveP s t d b) (moveP s t d c) = turnZ a b c := by
 unfold turnZ;rw [areaQ_move];have h := Rat.mul_pos hd hd;generalize areaQ a b c = x at *;have key : ∀ q : Rat, q.num.sign = if q < 0 then -1 else if 0 < q then 1 else 0 := fun q => by
  split
  ·rename_i h; exact Int.sign_eq_neg_one_of_neg (num_lt_zero_iff.2 h)
  ·split
   ·rename_i h; exact Int.sign_eq_one_of_pos (num_pos_iff.2 h)
   ·rename_i h1 h2
    have : q = 0 := Rat.le_antisymm (Rat.not_lt.1 h2) (Rat.not_lt.1 h1);subst this; rfl
 rw [key, key];have e1 : d * d * x < 0 ↔ x < 0 := by
  constructor
  ·intro h1
   refine Rat.not_le.1 fun h2 => ?_;have := Rat.mul_nonneg (Rat.le_of_lt h) h2;exact absurd h1 (Rat.not_lt.2 this)
  ·intro h1
   have := Rat.mul_pos h (a := d * d) (b := -x) (by grind);grind
 have e2 : 0 < d * d * x ↔ 0 < x := by
  constructor
  ·intro h1
   refine Rat.not_le.1 fun h2 => ?_;have := Rat.mul_nonneg (a := d * d) (b := -x) (Rat.le_of_lt h) (by grind);grind
  ·intro h1; exact Rat.mul_pos h h1
 simp only [e1, e2]
theorem upB_move (s t d : Rat) (hd : 0 < d) (p q : PtQ) : upB (moveP s t d p) (moveP s t d q) = upB p q := by
 have lt : ∀ a b z : Rat, (a + z) * d < (b + z) * d ↔ a < b := fun a b z => by
  constructor
  ·intro h
   refine Rat.not_le.1 fun h2 => ?_;have := Rat.mul_nonneg (a := a - b) (b := d) (by grind) (Rat.le_of_lt hd);grind
  ·intro h
   have := Rat.mul_pos (a := b - a) (b := d) (by grind) hd;grind
 have eq : ∀ a b z : Rat, (a + z) * d = (b + z) * d ↔ a = b := fun a b z => by
  constructor
  ·intro h
   refine Rat.le_antisymm (Rat.not_lt.1 fun h2 => ?_) (Rat.not_lt.1 fun h2 => ?_)
   ·have := (lt b a z).2 h2; rw [h] at this; exact absurd this (Rat.lt_irrefl)
   ·have := (lt a b z).2 h2; rw [h] at this; exact absurd this (Rat.lt_irrefl)
  ·intro h; rw [h]
 unfold upB moveP;simp only [lt, eq]
end Go.Proofs.YtgdpoankaojklaaGreatDoor
