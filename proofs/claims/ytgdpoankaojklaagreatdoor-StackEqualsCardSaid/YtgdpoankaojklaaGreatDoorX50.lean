import Derived.Test.YtgdpoankaojklaaGreatDoorVS29
import Derived.Test.YtgdpoankaojklaaGreatDoorVRA
import Derived.Test.YtgdpoankaojklaaGreatDoorVW2
import Derived.Test.YtgdpoankaojklaaGreatDoorVS30
import Derived.Lib.ItoaNum
import Derived.Lib.Atoi
import Derived.Lib.Strings
import Derived.Lib.IndexMore
import Derived.Lib.ParseIntB
import Derived.Deep.RegionWith
import Derived.Deep.DeepCutAuto
import Derived.Laws.OwnMore
import Derived.BigRegion
import Derived.Lib.IndexBytes
import Derived.Deep.RegionHeld3
import Derived.Deep.AppendLies
import Derived.Deep.RegionLaw
import Derived.Deep.MidRow
/- What is asked beside the pack. -/
set_option maxHeartbeats 8000000
set_option maxRecDepth 100000
namespace Go.Proofs.YtgdpoankaojklaaGreatDoor
open Go.Lib
theorem ival_nat (l : List Nat) : ival (l.map fun x : Nat => (x : Int)) = (lval B4 l : Nat) := by
 induction l with
 | nil => simp [ival, lval]
 | cons y l ih =>
   rw [List.map_cons, ival, ih, lval];simp [B4]
theorem lval_nonneg_lt4 {o : List Nat} (h : ∀ z ∈ o, z < B4) : (lval B4 o : Int) < 10000 ^ o.length := by
 have := lval_lt B4 o h;have h2 : ((lval B4 o : Nat) : Int) < ((B4 ^ o.length : Nat) : Int) := by exact_mod_cast this
 rw [show ((B4 ^ o.length : Nat) : Int) = (10000 : Int) ^ o.length by rw [Int.natCast_pow]; rfl] at h2;exact h2
theorem CarryInv.nonneg {p : List Int} {k : Nat} {over : Int} {o : List Nat} {n : Nat} (h : CarryInv p k over o) (hk : p.length <= k) (hn : ival p = n) : 0 <= over := by
 obtain ⟨h1, h2, h3, h4, h5⟩ := h;rw [List.take_of_length_le hk, hn] at h3;have := lval_nonneg_lt4 h2;rw [h1] at this;rcases Int.lt_or_le over 0 with hneg | h0
 ·have hP : (0 : Int) < 10000 ^ k := Int.pow_pos (by decide)
  have : over * 10000 ^ k <= (-1) * 10000 ^ k := Int.mul_le_mul_of_nonneg_right (by omega) (Int.le_of_lt hP);omega
 ·exact h0
def jl (p q : List Nat) (k : Int) (i : Nat) : List Int :=
 (List.range (max p.length i)).map fun j => ((p[j]?.getD 0 : Nat) : Int) + if j < i then k * ((q[j]?.getD 0 : Nat) : Int) else 0
theorem jl_length (p q : List Nat) (k : Int) (i : Nat) : (jl p q k i).length = max p.length i := by simp [jl]
theorem jl_zero (p q : List Nat) (k : Int) : jl p q k 0 = p.map fun x : Nat => (x : Int) := by
 apply List.ext_getElem
 ·simp [jl]
 ·intro j h1 h2
  simp only [jl, List.getElem_map, List.getElem_range];simp at h2;rw [List.getElem?_eq_getElem (by simpa using h2)];simp
theorem jl_get (p q : List Nat) (k : Int) (i j : Nat) (h : j < (jl p q k i).length) : (jl p q k i)[j] = ((p[j]?.getD 0 : Nat) : Int) + if j < i then k * ((q[j]?.getD 0 : Nat) : Int) else 0 := by
 simp only [jl, List.getElem_map, List.getElem_range]
theorem jl_step_app (p q : List Nat) (k : Int) (i : Nat) (h : p.length <= i) : (jl p q k i ++ [0]).set i (0 + k * ((q[i]?.getD 0 : Nat) : Int)) = jl p q k (i + 1) := by
 have hl : (jl p q k i).length = i := by rw [jl_length]; omega
 apply List.ext_getElem
 ·simp [jl_length]; omega
 ·intro j h1 h2
  rw [jl_get, List.getElem_set];simp [hl] at h1;split
  ·rename_i e; subst e
   rw [List.getElem?_eq_none h]; simp
  ·rename_i e
   have hj : j < i := by omega
   rw [List.getElem_append_left (by omega), jl_get];simp only [hj, if_true]
theorem jl_step_in (p q : List Nat) (k : Int) (i : Nat) (h : i < p.length) (y : Int) (hy : y = (p[i] : Int) + k * ((q[i]?.getD 0 : Nat) : Int)) : (jl p q k i).set i y = jl p q k (i + 1) := by
 subst hy;apply List.ext_getElem
 ·simp [jl_length]; omega
 ·intro j h1 h2
  rw [jl_get, List.getElem_set];split
  ·rename_i e; subst e
   rw [if_pos (by omega), List.getElem?_eq_getElem h]; rfl
  ·rename_i e
   rw [jl_get];by_cases hji : j < i
   ·rw [if_pos hji, if_pos (by omega)]
   ·rw [if_neg hji, if_neg (by omega)]
theorem jl_at_in (p q : List Nat) (k : Int) (i : Nat) (h : i < p.length) (hl : i < (jl p q k i).length) : (jl p q k i)[i] = (p[i] : Int) := by
 rw [jl_get, if_neg (by omega), List.getElem?_eq_getElem h]; simp
theorem ival_jl (p q : List Nat) (k : Int) (i : Nat) (hi : i <= q.length) : ival (jl p q k i) = (lval B4 p : Int) + k * (lval B4 (q.take i) : Int) := by
 induction i with
 | zero => rw [jl_zero, ival_nat]; simp [lval]
 | succ i ih =>
   have hq : i < q.length := by omega
   have e : (lval B4 (q.take (i + 1)) : Int) = (lval B4 (q.take i) : Int) + (q[i] : Int) * 10000 ^ i := by
    rw [List.take_succ_eq_append_getElem hq, lval_snoc, List.length_take, Nat.min_eq_left (by omega), Int.natCast_add, Int.natCast_mul, Int.natCast_pow]; rfl
   have e2 : q[i]?.getD 0 = q[i] := by rw [List.getElem?_eq_getElem hq]; rfl
   rcases Nat.lt_or_ge i p.length with h | h
   ·have hl : i < (jl p q k i).length := by rw [jl_length]; omega
    rw [<- jl_step_in p q k i h _ rfl, ival_set _ _ _ hl, jl_at_in p q k i h hl, ih (by omega), e, e2];generalize (10000 : Int) ^ i = P;grind
   ·have hl : (jl p q k i).length = i := by rw [jl_length]; omega
    have e3 : (jl p q k i ++ [0])[i]'(by simp [hl]) = 0 := by rw [List.getElem_append_right (by omega)]; simp
    rw [<- jl_step_app p q k i h, ival_set _ _ _ (by simp [hl]), e3, ival_snoc, ih (by omega), e, e2];generalize (10000 : Int) ^ i = P;grind
theorem jl_bound {p q : List Nat} {k : Int} (hp : ∀ x ∈ p, x < B4) (hq : ∀ x ∈ q, x < B4) (hk : -10000 <= k /\ k <= 10000) (i : Nat) : ∀ x ∈ jl p q k i, -100010000 <= x /\ x <= 100010000 := by
 intro x hx;simp only [jl, List.mem_map, List.mem_range] at hx;obtain ⟨j, _, rfl⟩ := hx;have h1 : p[j]?.getD 0 < 10000 := by
  cases hh : p[j]? with
  | none => simp
  | some x => exact hp x (List.mem_of_getElem? hh)
 have h2 : q[j]?.getD 0 < 10000 := by
  cases hh : q[j]? with
  | none => simp
  | some x => exact hq x (List.mem_of_getElem? hh)
 generalize p[j]?.getD 0 = a at *;generalize q[j]?.getD 0 = b at *;have h3 : k * (b : Int) <= 10000 * 10000 := by
  rcases Int.le_total 0 k with h0 | h0
  ·exact Int.mul_le_mul hk.2 (by omega) (by omega) (by omega)
  ·have : k * (b : Int) <= 0 := Int.mul_nonpos_of_nonpos_of_nonneg h0 (by omega)
   omega
 have h4 : -(10000 * 10000) <= k * (b : Int) := by
  rcases Int.le_total 0 k with h0 | h0
  ·have : 0 <= k * (b : Int) := Int.mul_nonneg h0 (by omega)
   omega
  ·have : (-k) * (b : Int) <= 10000 * 10000 := Int.mul_le_mul (by omega) (by omega) (by omega) (by omega)
   rw [Int.neg_mul] at this;omega
 split <;> omega
theorem rest_step {B : Nat} {xs : List Nat} {b i r : Nat} (h : i < xs.length) (hr : r = lval B (xs.drop (i + 1)) % b) : (r * B + xs[i]) % b = lval B (xs.drop i) % b := by
 rw [drop_step_lval h, hr];have := Nat.div_add_mod (lval B (xs.drop (i + 1))) b;generalize lval B (xs.drop (i + 1)) = n at *;generalize hm : n % b = m at *;generalize n / b = d at *;subst this;rw [show xs[i] + B * (b * d + m) = (m * B + xs[i]) + b * (B * d) by grind, Nat.add_mul_mod_self_left]
theorem lm_cons_drop {B : Nat} (hB : 2 <= B) {r x : Nat} (hx : x < B) : dropZ (x :: lm B r) = lm B (r * B + x) := by
 rw [dropZ_eq B hB _ (by
  intro y hy;rcases List.mem_cons.1 hy with rfl | hy
  ·exact hx
  ·exact lm_lt B r hB y hy)]
 congr 1;simp only [lval];rw [lval_lm B r hB, Nat.mul_comm B r, Nat.add_comm]
theorem give_step {n : Nat} {i : Nat} (h : i < (lm B4 n).length) (hp : 0 < lval B4 ((lm B4 n).drop (i + 1))) :
 decDigits (lval B4 ((lm B4 n).drop i)) = decDigits (lval B4 ((lm B4 n).drop (i + 1))) ++ pad 4 (lm B4 n)[i] := by
 rw [drop_step_lval h, Nat.add_comm, Nat.mul_comm B4];exact decDigits_shift _ 4 _ hp (by decide) (lm_lt B4 n two_le_B4 _ (List.getElem_mem h))
theorem give_last {n : Nat} (h : (lm B4 n).length - 1 < (lm B4 n).length) : lval B4 ((lm B4 n).drop ((lm B4 n).length - 1)) = (lm B4 n)[(lm B4 n).length - 1] /\ 0 < (lm B4 n)[(lm B4 n).length - 1] := by
 rw [List.drop_eq_getElem_cons h, List.drop_eq_nil_of_le (by omega)];refine ⟨by simp [lval], ?_⟩;rcases Nat.eq_zero_or_pos (lm B4 n)[(lm B4 n).length - 1] with h0 | h0
 ·refine absurd ?_ (lm_last B4 n two_le_B4 ((lm B4 n).take ((lm B4 n).length - 1)))
  conv => lhs; rw [<- List.take_append_drop ((lm B4 n).length - 1) (lm B4 n)]
  rw [List.drop_eq_getElem_cons h, h0, List.drop_eq_nil_of_le (by omega)]
 ·exact h0
theorem lval_drop_pos {n i : Nat} (h : i < (lm B4 n).length) : 0 < lval B4 ((lm B4 n).drop i) := by
 have hn : 0 < n := by
  rcases Nat.eq_zero_or_pos n with rfl | h0
  ·rw [lm_zero] at h; simp at h
  ·exact h0
 generalize hk : (lm B4 n).length - 1 - i = k
 induction k generalizing i with
 | zero =>
   obtain rfl : i = (lm B4 n).length - 1 := by omega
   have := give_last h;omega
 | succ k ih =>
   rw [drop_step_lval h];have := ih (i := i + 1) (by omega) (by omega);have : 0 < B4 * lval B4 ((lm B4 n).drop (i + 1)) := Nat.mul_pos (by decide) this;omega
end Go.Proofs.YtgdpoankaojklaaGreatDoor
namespace Go.Proofs.YtgdpoankaojklaaGreatDoor
open Go.RowKit
theorem cut4_full (w : World) (v : Value) (l : List Nat) (h : Rd .i64 w v l) :
 Calls Tryz.prog 220 #[v] w (Same (fun v' => Rd .i64 w v' (dropZ l) /\ ∀ n, FreshV n v -> FreshV n v') w) := by
 have h' := h;obtain ⟨p, c, rfl, hc, hm, hr⟩ := h.open;have HH := Lib.hid h';clear h h';have hm' : c <= 9223372036854775807 := hm;go_enter Tryz.func220, Tryz.ntmps220;go_wp2;go_loop [0] (fun t => ∃ n : Nat, n <= l.length /\ t = .slice p n c /\ Hid (dropZ l = dropZ (l.take n))) (fun t => match t with | .slice _ n _ => n | _ => 0)
 case atStart => exact ⟨_, Nat.le_refl _, rfl, by unfold Hid; rw [List.take_length]⟩
 case round =>
  obtain ⟨n, hn, rfl, HD⟩ := hrel;rcases Nat.eq_zero_or_pos n with rfl | hpos
  ·go_wp2
   go_ret;exact ⟨_, rfl, ⟨trim_ex w l p c 0 hn HH.out (by rw [HD.out]; rfl), fun m hF a l' c' e => by cases e; exact hF _ _ _ rfl⟩, rfl⟩
  ·have hne : l ≠ [] := by intro e; subst e; simp at hn; omega
   obtain ⟨b, off, rfl, hlt0, hcell⟩ := hr hne;obtain ⟨m, rfl⟩ : ∃ m, n = m + 1 := ⟨n - 1, by omega⟩;have hlt : m < l.length := by omega
   have hc1 := hcell m hlt;have hT := Lib.hid (List.take_succ_eq_append_getElem hlt);clear hcell hr;by_cases h0 : l[m] = 0
   ·have H0 := Lib.hid h0
    rw [h0] at hc1;clear h0;go_wp2
    go_round
    case rel => exact ⟨m, by omega, rfl, by unfold Hid; rw [HD.out, hT.out, H0.out, dropZ_snoc_zero]⟩
    case measure => simp
   ·have h1 : ((l[m] : Int) == 0) = false := by simpa using h0
    go_wp2;go_ret;exact ⟨_, rfl, ⟨trim_ex w l _ c (m+1) hn HH.out (by rw [HD.out, hT.out, dropZ_snoc_pos _ _ h0]), fun m hF a l' c' e => by cases e; exact hF _ _ _ rfl⟩, rfl⟩
theorem cut4_any (w : World) (v : Value) (l : List Nat) (h : Rd .i64 w v l) :
 Calls Tryz.prog 220 #[v] w (Same (fun v' => Rd .i64 w v' (dropZ l)) w) :=
 (cut4_full w v l h).mono fun _ _ ⟨v', he, hv, hw⟩ => ⟨v', he, hv.1, hw⟩
theorem less_top {a b i : Nat} (hi : i < (lm B4 a).length) (hib : i < (lm B4 b).length) (hd : (lm B4 a).drop (i + 1) = (lm B4 b).drop (i + 1))
 (hlt : (lm B4 a)[i] < (lm B4 b)[i]) : a < b := by
 have := lval_lt_of_top B4 _ _ i (lm_lt B4 a two_le_B4) hi hib hd hlt;rwa [lval_lm _ _ two_le_B4, lval_lm _ _ two_le_B4] at this
theorem less4_any (w : World) (va vb : Value) (a b : Nat) (ha : Rd .i64 w va (lm B4 a)) (hb : Rd .i64 w vb (lm B4 b)) :
 Calls Tryz.prog 221 #[va, vb] w (Drawn (fun v' => v' = .bool (decide (a < b))) w) := by
 obtain ⟨p, c, rfl, hc, hm, hr⟩ := ha.open;obtain ⟨q, d, rfl, hd, hn, hs⟩ := hb.open;clear ha hb;have hm' : c <= 9223372036854775807 := hm;have hn' : d <= 9223372036854775807 := hn;rcases Nat.lt_trichotomy (lm B4 a).length (lm B4 b).length with hl | hl | hl
 ·have HF : Hid (decide (a < b) = true) := by unfold Hid; exact decide_eq_true (lm_lt_of_len B4 a b two_le_B4 hl)
  have h1 : (((lm B4 a).length : Int) != ((lm B4 b).length : Int)) = true := by rw [bne_iff_ne]; omega
  have h2 : decide (((lm B4 a).length : Int) < ((lm B4 b).length : Int)) = true := by simp; omega
  go_enter Tryz.func221, Tryz.ntmps221;go_wp2;go_ret;exact ⟨_, rfl, congrArg Value.bool (show _ = decide (a < b) by first | exact HF.out.symm | (rw [HF.out]; simp; omega)), dr_zero _⟩
 ·have h1 : (((lm B4 a).length : Int) != ((lm B4 b).length : Int)) = false := by rw [bne_eq_false_iff_eq]; omega
  obtain ⟨n, hn0⟩ : ∃ n, (lm B4 a).length = n := ⟨_, rfl⟩;have HA := Lib.hid hn0;have HB := Lib.hid (hl.symm.trans hn0);have hla : (lm B4 a).length <= n := by omega
  have hla' : n <= (lm B4 a).length := by omega
  have hlb : (lm B4 b).length <= n := by omega
  have hlb' : n <= (lm B4 b).length := by omega
  have hnc : n <= c := by omega
  have hnd : n <= d := by omega
  rw [hn0, hl.symm.trans hn0] at h1;rw [hn0, hl.symm.trans hn0];clear hl hn0 hc hd;go_enter Tryz.func221, Tryz.ntmps221;go_wp2;go_loopw [5] (fun t wr => ∃ i : Nat, i <= n /\ t = .int .i64 ((i : Int) - 1) /\ Hid ((lm B4 a).drop i = (lm B4 b).drop i) /\ ∃ j, wr = w.drewN j) (fun t _ => (intOf t + 1).toNat)
  case atStart => exact ⟨n, Nat.le_refl _, rfl, by unfold Hid; rw [List.drop_eq_nil_of_le hla, List.drop_eq_nil_of_le hlb], 0, rfl⟩
  case round =>
   obtain ⟨i, hi, rfl, HD, j, rfl⟩ := hrel;rcases Nat.eq_zero_or_pos i with rfl | hpos
   ·have HE : Hid (a = b) := Lib.hid (lm_inj B4 two_le_B4 (by simpa using HD.out))
    go_wp2;go_ret;exact ⟨_, rfl, congrArg Value.bool (show _ = decide (a < b) by rw [HE.out]; simp), j, rfl⟩
   ·obtain ⟨m, rfl⟩ : ∃ m, i = m + 1 := ⟨i - 1, by omega⟩
    have hlt : m < (lm B4 a).length := by omega
    have hltb : m < (lm B4 b).length := by omega
    obtain ⟨ba, oa, rfl, _, hca⟩ := hr (List.ne_nil_of_length_pos (by omega));obtain ⟨bb, ob, rfl, _, hcb⟩ := hs (List.ne_nil_of_length_pos (by omega));have hc1 := hca m hlt;have hc2 := hcb m hltb;clear hca hcb hr hs;obtain ⟨x, hx⟩ : ∃ x, (lm B4 a)[m] = x := ⟨_, rfl⟩;obtain ⟨y, hy⟩ : ∃ y, (lm B4 b)[m] = y := ⟨_, rfl⟩;rw [hx] at hc1;rw [hy] at hc2;have HX := Lib.hid hx;have HY := Lib.hid hy;clear hx hy;have e1 : ((m + 1 : Nat) : Int) - 1 = (m : Int) := by omega
    rw [e1];clear e1;have f1 : (0 : Int) <= (m : Int) := by omega
    have f2 : (m : Int) < (n : Int) := by omega
    rcases Nat.lt_trichotomy x y with hxy | hxy | hxy
    ·have t1 : ((x : Int) != (y : Int)) = true := by rw [bne_iff_ne]; omega
     have t2 : decide ((x : Int) < (y : Int)) = true := by simp; omega
     have HF : Hid (decide (a < b) = true) := by unfold Hid; exact decide_eq_true (less_top hlt hltb HD.out (by rw [HX.out, HY.out]; exact hxy))
     go_wp2_with fail;go_quiet (fail);go_wp2_with fail;go_quiet (fail);go_wp2;go_ret;exact ⟨_, rfl, congrArg Value.bool (show _ = decide (a < b) by first | exact HF.out.symm | (rw [HF.out]; simp; omega)), dr_step (dr_step ⟨j, rfl⟩ _) _⟩
    ·subst hxy
     have t1 : ((x : Int) != (x : Int)) = false := by simp
     go_wp2_with fail;go_quiet (fail);go_wp2;go_roundw
     case rel => exact ⟨m, by omega, rfl, by unfold Hid; exact drop_step hlt hltb HD.out (by rw [HX.out, HY.out]), _, rfl⟩
     case measure => simp [intOf]
    ·have t1 : ((x : Int) != (y : Int)) = true := by rw [bne_iff_ne]; omega
     have t2 : decide ((x : Int) < (y : Int)) = false := by simp; omega
     have HF : Hid (decide (a < b) = false) := by
      unfold Hid;have := less_top hltb hlt HD.out.symm (by rw [HX.out, HY.out]; exact hxy);exact decide_eq_false (by omega)
     go_wp2_with fail;go_quiet (fail);go_wp2_with fail;go_quiet (fail);go_wp2;go_ret;exact ⟨_, rfl, congrArg Value.bool (show _ = decide (a < b) by first | exact HF.out.symm | (rw [HF.out]; simp; omega)), dr_step (dr_step ⟨j, rfl⟩ _) _⟩
 ·have HF : Hid (decide (a < b) = false) := by
   unfold Hid;have := lm_lt_of_len B4 b a two_le_B4 hl;exact decide_eq_false (by omega)
  have h1 : (((lm B4 a).length : Int) != ((lm B4 b).length : Int)) = true := by rw [bne_iff_ne]; omega
  have h2 : decide (((lm B4 a).length : Int) < ((lm B4 b).length : Int)) = false := by simp; omega
  go_enter Tryz.func221, Tryz.ntmps221;go_wp2;go_ret;exact ⟨_, rfl, congrArg Value.bool (show _ = decide (a < b) by first | exact HF.out.symm | (rw [HF.out]; simp; omega)), dr_zero _⟩
open Go.Shelf
theorem map_snoc_i64 (l : List Nat) (x : Nat) : (l.map fun x : Nat => Value.int .i64 (x : Int)) ++ [Value.int .i64 (x : Int)] = (l ++ [x]).map fun x : Nat => Value.int .i64 (x : Int) := by simp
theorem tmod_cases (s : Int) : (0 <= s /\ s.tmod 10000 = s % 10000) \/ (s < 0 /\ s.tmod 10000 = -((-s) % 10000)) := by
 rcases Int.lt_or_le s 0 with h | h
 ·right
  refine ⟨h, ?_⟩;have : s = -(-s) := by omega
  conv => lhs; rw [this, Int.neg_tmod, Int.tmod_eq_emod_of_nonneg (by omega)]
 ·exact .inl ⟨h, Int.tmod_eq_emod_of_nonneg h⟩
theorem tdiv_exact (s : Int) : (s - s % 10000).tdiv 10000 = s / 10000 := by
 have h : s - s % 10000 = 10000 * (s / 10000) := by omega
 rw [h, Int.mul_tdiv_cancel_left _ (by decide)]
theorem tdig_neg {s m : Int} (hm : m = s.tmod 10000) (h : m < 0) : m + 10000 = s % 10000 /\ (s - (m + 10000)).tdiv 10000 = s / 10000 := by
 have h1 : m + 10000 = s % 10000 := by
  rcases tmod_cases s with ⟨h2, h3⟩ | ⟨h2, h3⟩ <;> rw [h3] at hm <;> omega
 exact ⟨h1, by rw [h1]; exact tdiv_exact s⟩
theorem tdig_pos {s m : Int} (hm : m = s.tmod 10000) (h : ¬ m < 0) : m = s % 10000 /\ (s - m).tdiv 10000 = s / 10000 := by
 have h1 : m = s % 10000 := by
  rcases tmod_cases s with ⟨h2, h3⟩ | ⟨h2, h3⟩ <;> rw [h3] at hm <;> omega
 exact ⟨h1, by rw [h1]; exact tdiv_exact s⟩
theorem carry4_any (w : World) (v : Value) (p : List Int) (n : Nat) (h : RdI .i64 w v p) (hlen : p.length <= 3000000) (hb : ∀ x ∈ p, -100000000000000000 <= x /\ x <= 100000000000000000) (hn : ival p = n) :
 Calls Tryz.prog 222 #[v] w (Ret (fun v' w' => Rd .i64 w' v' (lm B4 n) /\ FreshV w.heap.size v') w) := by
 obtain ⟨i0, hi, hz0, hz1, hz2⟩ := info_parts Tryz.info_i64;obtain ⟨pa, c, rfl, hc, hm, hr⟩ := h.open;have HN := Lib.hid hn;have HBD := Lib.hid hb;clear h hn hb;have hm' : c <= 9223372036854775807 := hm;go_enter Tryz.func222, Tryz.ntmps222;go_wp2;go_loopw [3, 4, 5] (fun t3 t4 t5 wr => ∃ (k : Nat) (ov : Int) (o : List Nat), t5 = .int .i64 k /\ t4 = .int .i64 ov /\ Hid (CarryInv p k ov o) /\ Few p.length k ov /\ -100000000000000000 <= ov /\ ov <= 100000000000000000 /\ wr.ownsRow w.heap.size 3 1 t3 k (o.map fun x : Nat => Value.int .i64 (x : Int)) /\ Below w.heap.size w wr)
  (fun _ t4 t5 _ => (p.length - (intOf t5).toNat) * 100000000000000001 + (intOf t4).toNat)
 case atStart => exact ⟨0, 0, [], rfl, rfl, CarryInv.start p, .inl (Nat.zero_le _), by decide, by decide, ⟨rfl, .inl ⟨rfl, rfl⟩⟩, Below.refl _ _⟩
 case round =>
  obtain ⟨k, ov, o, rfl, rfl, HI, hfew, ho1, ho2, hown, hnx⟩ := hrel;have hk5 := hfew.le;have hk6 : k <= 4000000 := by omega
  rcases Nat.lt_or_ge k p.length with hkp | hkp
  ·have hne : p ≠ [] := List.ne_nil_of_length_pos (by omega)
   obtain ⟨b, off, rfl, hbl, hcell⟩ := hr hne;have hc1 := zcq hnx hbl (hcell k hkp);obtain ⟨x, hx⟩ : ∃ x, x = p[k] := ⟨_, rfl⟩;rw [<- hx] at hc1;have hxb : -100000000000000000 <= x /\ x <= 100000000000000000 := by rw [hx]; exact HBD.out _ (List.getElem_mem hkp)
   have hstep : Hid (CarryInv p (k + 1) ((ov + x) / 10000) (o ++ [((ov + x) % 10000).toNat])) := HI.out.step (by rw [hx, List.getElem?_eq_getElem hkp]; rfl) HBD.out;have hfew2 := hfew.step (s := ov + x) (.inl hkp) ho2;have hsb : -200000000000000000 <= ov + x /\ ov + x <= 200000000000000000 := by omega
   have HX := Lib.hid hx;clear hcell hr hx;by_cases hneg : (ov + x).tmod 10000 < 0
   ·have hmb : -10000 < (ov + x).tmod 10000 := by
     rcases tmod_cases (ov + x) with ⟨h2, h3⟩ | ⟨h2, h3⟩ <;> rw [h3] <;> omega
    have HD := Lib.hid (tdig_neg (s := ov + x) rfl hneg);have hdv : -20000000000001 <= (ov + x) / 10000 /\ (ov + x) / 10000 <= 20000000000000 := by omega
    go_wp2_with (first | (at_builtin; refine wpList_append_own _ rfl _ _ 91 rfl w.heap.size 3 i0 (.int .i64 0) 1 8 Tryz.underlying91 hi hz0 hz1 hz2 rfl (by decide) _ _ _ rfl (hown.alloc _) ⟨wr.heap.size, 0, none⟩ 1 1 [.int .i64 ((ov + x).tmod 10000 + 10000)] rfl rfl (cell_one_i64 _ _ _) (one_cell_i64 _) (by unfold maxLen; omega) (by omega) (by have := hnx.size; simp; omega) ?_));intro v' w2 hown2 hgr2 _;have hown3 : w2.ownsRow w.heap.size 3 1 v' (k + 1) ((o ++ [((ov + x) % 10000).toNat]).map fun x : Nat => Value.int .i64 (x : Int)) := by
     rw [<- map_snoc_i64];have e : ((ov + x).tmod 10000 + 10000 : Int) = ((((ov + x) % 10000).toNat : Nat) : Int) := by rw [HD.out.1]; omega
     rw [<- e]; exact hown2
    have hbl2 := below_append hnx hnx.size hown hgr2;clear hown2 hown hgr2 hnx;go_wp2;go_roundw
    case rel => exact ⟨k + 1, _, _, by go_num, rfl, by rw [HD.out.2]; exact hstep, by rw [HD.out.2]; exact hfew2, by rw [HD.out.2]; omega, by rw [HD.out.2]; omega, hown3, hbl2⟩
    case measure => simp [intOf, HD.out.2]; omega
   ·have hmb : 0 <= (ov + x).tmod 10000 /\ (ov + x).tmod 10000 < 10000 := by
     rcases tmod_cases (ov + x) with ⟨h2, h3⟩ | ⟨h2, h3⟩ <;> rw [h3] at hneg ⊢ <;> omega
    have HD := Lib.hid (tdig_pos (s := ov + x) rfl hneg);have hdv : -20000000000001 <= (ov + x) / 10000 /\ (ov + x) / 10000 <= 20000000000000 := by omega
    go_wp2_with (first | (at_builtin; refine wpList_append_own _ rfl _ _ 91 rfl w.heap.size 3 i0 (.int .i64 0) 1 8 Tryz.underlying91 hi hz0 hz1 hz2 rfl (by decide) _ _ _ rfl (hown.alloc _) ⟨wr.heap.size, 0, none⟩ 1 1 [.int .i64 ((ov + x).tmod 10000)] rfl rfl (cell_one_i64 _ _ _) (one_cell_i64 _) (by unfold maxLen; omega) (by omega) (by have := hnx.size; simp; omega) ?_));intro v' w2 hown2 hgr2 _;have hown3 : w2.ownsRow w.heap.size 3 1 v' (k + 1) ((o ++ [((ov + x) % 10000).toNat]).map fun x : Nat => Value.int .i64 (x : Int)) := by
     rw [<- map_snoc_i64];have e : ((ov + x).tmod 10000 : Int) = ((((ov + x) % 10000).toNat : Nat) : Int) := by rw [HD.out.1]; omega
     rw [<- e]; exact hown2
    have hbl2 := below_append hnx hnx.size hown hgr2;clear hown2 hown hgr2 hnx;go_wp2;go_roundw
    case rel => exact ⟨k + 1, _, _, by go_num, rfl, by rw [HD.out.2]; exact hstep, by rw [HD.out.2]; exact hfew2, by rw [HD.out.2]; omega, by rw [HD.out.2]; omega, hown3, hbl2⟩
    case measure => simp [intOf, HD.out.2]; omega
  ·have hov0 : 0 <= ov := HI.out.nonneg hkp HN.out
   have hkp' : ¬ k < p.length := by omega
   by_cases hz : ov = 0
   ·subst hz
    have HDN : Hid (dropZ o = lm B4 n) := HI.out.done hkp HN.out;have hlo : o.length = k := HI.out.1;have hrd : Rd .i64 wr _ o := Rd.of_owns rfl (by rw [hlo]; exact hown);have hfr := FreshV.of_owns hown;clear hlo hr hown;go_wp2_with (go_at_call 220; refine (cut4_full _ _ _ hrd).mono ?_; rintro e w3 ⟨v3, rfl, hv3, rfl⟩);go_ret;exact ⟨_, rfl, ⟨HDN.out ▸ hv3.1, hv3.2 _ hfr⟩, hnx⟩
   ·have hz1' : (ov != 0) = true := by rw [bne_iff_ne]; exact hz
    have hov1 : 0 < ov := by omega
    have hstep : Hid (CarryInv p (k + 1) (ov / 10000) (o ++ [(ov % 10000).toNat])) := HI.out.step (by rw [List.getElem?_eq_none hkp]; simp) HBD.out;have hfew2 := hfew.step (s := ov) (.inr ⟨rfl, hov1⟩) ho2;clear hz hr;go_wp2_with (first | (at_builtin; refine wpList_append_own _ rfl _ _ 91 rfl w.heap.size 3 i0 (.int .i64 0) 1 8 Tryz.underlying91 hi hz0 hz1 hz2 rfl (by decide) _ _ _ rfl (hown.alloc _) ⟨wr.heap.size, 0, none⟩ 1 1 [.int .i64 (ov % 10000)] rfl rfl (cell_one_i64 _ _ _) (one_cell_i64 _) (by unfold maxLen; omega) (by omega) (by have := hnx.size; simp; omega) ?_));intro v' w2 hown2 hgr2 _;have hown3 : w2.ownsRow w.heap.size 3 1 v' (k + 1) ((o ++ [(ov % 10000).toNat]).map fun x : Nat => Value.int .i64 (x : Int)) := by
     rw [<- map_snoc_i64];have e : (ov % 10000 : Int) = (((ov % 10000).toNat : Nat) : Int) := by omega
     rw [<- e]; exact hown2
    have hbl2 := below_append hnx hnx.size hown hgr2;clear hown2 hown hgr2 hnx;go_wp2;go_roundw
    case rel => exact ⟨k + 1, _, _, by go_num, rfl, by rw [show (ov - ov % 10000) / 10000 = ov / 10000 by omega]; exact hstep, by rw [show (ov - ov % 10000) / 10000 = ov / 10000 by omega]; exact hfew2, by omega, by omega, hown3, hbl2⟩
    case measure => simp [intOf]; omega
theorem own_shape {w : World} {base e n sz : Nat} {v : Value} {cs : List Value} (h : w.ownsRow base e sz v n cs) : ∃ p c, v = .slice p n c /\ (0 < n -> ∃ g, p = some ⟨g, 0, none⟩ /\ base <= g) := by
 rcases h.2 with ⟨h1, h2⟩ | ⟨g, cap, cur, h1, hb, _⟩
 ·exact ⟨none, 0, by rw [h1, h2], fun h3 => absurd h2 (by omega)⟩
 ·exact ⟨_, cap, h1, fun _ => ⟨g, rfl, hb⟩⟩
theorem joined4_any (w : World) (va vb : Value) (a b n : Nat) (kz : Int) (ha : Rd .i64 w va (lm B4 a)) (hb : Rd .i64 w vb (lm B4 b)) (hk : -10000 <= kz /\ kz <= 10000) (hn : (a : Int) + kz * b = n)
 (hla : (lm B4 a).length <= 1000000) (hlb : (lm B4 b).length <= 1000000) :
 Calls Tryz.prog 189 #[va, vb, .int .i64 kz, .int .i64 0] w (Ret (fun v' w' => Rd .i64 w' v' (lm B4 n) /\ FreshV w.heap.size v') w) := by
 obtain ⟨i0, hi, hz0, hz1, hz2⟩ := info_parts Tryz.info_i64;obtain ⟨pa, c, rfl, hc, hm, hr⟩ := ha.open;obtain ⟨q, d, rfl, hd, hm2, hs⟩ := hb.open;have hm' : c <= 9223372036854775807 := hm;have hn' : d <= 9223372036854775807 := hm2;have HX := Lib.hid (lm_lt B4 a two_le_B4);have HY := Lib.hid (lm_lt B4 b two_le_B4);have HN : Hid (ival (jl (lm B4 a) (lm B4 b) kz (lm B4 b).length) = n) := by
  unfold Hid;rw [ival_jl _ _ _ _ (Nat.le_refl _), List.take_length, lval_lm B4 a two_le_B4, lval_lm B4 b two_le_B4]; exact hn
 clear ha hb hn;generalize lm B4 a = x at *;generalize lm B4 b = y at *;have h00 : Hid ((x.map fun x : Nat => Value.int .i64 (x : Int)) = (jl x y kz 0).map fun x : Int => Value.int .i64 x) := by
  unfold Hid; rw [jl_zero, List.map_map]; rfl
 have hemp : (w.alloc (.cells #[] 3)).ownsRow w.heap.size 3 1 (.slice (some ⟨w.heap.size, 0, none⟩) 0 0) 0 [] :=
  ⟨rfl, .inr ⟨w.heap.size, 0, _, rfl, Nat.le_refl _, heap_alloc_new _ _, Nat.le_refl _, by unfold maxLen; omega, rfl, rfl⟩⟩
 have hbw : Below w.heap.size w (w.alloc (.cells #[] 3)) := zal _ _;rcases Nat.eq_zero_or_pos x.length with hx0 | hxp
 case' inl =>
  obtain rfl := List.length_eq_zero_iff.1 hx0;cases pa;all_goals
   go_enter Tryz.func189, Tryz.ntmps189;go_wp2_with fail
  all_goals
   obtain ⟨x, hxl, HX', HN', hown2⟩ : ∃ x : List Nat, x.length <= 1000000 /\ Hid (∀ z ∈ x, z < B4) /\ Hid (ival (jl x y kz y.length) = n) /\
    (w.alloc (.cells #[] 3)).ownsRow w.heap.size 3 1 (.slice (some ⟨w.heap.size, 0, none⟩) 0 0) (jl x y kz 0).length ((jl x y kz 0).map fun x : Int => Value.int .i64 x) :=
    ⟨[], by simp, HX, HN, by rw [<- h00.out, jl_length]; exact hemp⟩
   clear HX HN hx0 h00 hemp hr hc hla;have HX := HX';have HN := HN';clear HX' HN';generalize (w.alloc (.cells #[] 3)) = w2 at *;generalize (Value.slice (some ⟨w.heap.size, 0, none⟩) 0 0) = v' at *
 case' inr =>
  have hne : x ≠ [] := List.ne_nil_of_length_pos hxp;obtain ⟨bx, ox, rfl, hblx, hcx⟩ := hr hne;have hnews : ∀ j u, (x.map fun x : Nat => Value.int .i64 (x : Int))[j]? = some u -> (w.alloc (.cells #[] 3)).cell? ((⟨bx, ox, none⟩ : Addr).add j) = some u := by
   intro j u hu;have hj : j < x.length := by have := (List.getElem?_eq_some_iff.1 hu).1; simpa using this
   rw [List.getElem?_map, List.getElem?_eq_getElem hj] at hu;cases hu;rw [addr_add];show (w.alloc (.cells #[] 3)).cell? ⟨bx, ox + j, none⟩ = some (.int .i64 ((x[j] : Nat) : Int));exact cell_alloc_l _ (hcx j hj)
  have hnew1 : ∀ u ∈ x.map fun x : Nat => Value.int .i64 (x : Int), u.oneCell' = true := by
   intro u hu;obtain ⟨y, _, rfl⟩ := List.mem_map.1 hu;rfl
  have hxl : x.length <= 1000000 := hla;have HNEWS := Lib.hid hnews;clear hcx hr hnews;go_enter Tryz.func189, Tryz.ntmps189;go_wp2_with (first | (at_builtin; refine wpList_append_own _ rfl _ _ 91 rfl w.heap.size 3 i0 (.int .i64 0) 1 8 Tryz.underlying91 hi hz0 hz1 hz2 rfl (by decide) _ _ _ rfl hemp ⟨bx, ox, none⟩ x.length c (x.map fun x : Nat => Value.int .i64 (x : Int)) rfl (by simp) HNEWS.out hnew1 (by unfold maxLen; omega) (by omega) (by simp) ?_));intro v' w2 hown2 hgr2 _;have hbw2 := hbw.grown hgr2 (by simp) (fun k hk => by have e : w.heap.size = k := (Option.some.inj hk); omega);rw [h00.out] at hown2;have e0 : x.length = (jl x y kz 0).length := by rw [jl_length]; omega
  rw [e0] at hown2;clear hbw hgr2 HNEWS hnew1 e0 hne hxp;have hbw := hbw2;clear hbw2;go_wp2_with fail
 all_goals
  go_loopw [9, 10] (fun t9 t10 wr => ∃ i : Nat, i <= y.length /\ t10 = .int .i64 i /\ wr.ownsRow w.heap.size 3 1 t9 (jl x y kz i).length ((jl x y kz i).map fun x : Int => Value.int .i64 x) /\ Below w.heap.size w wr) (fun _ t10 _ => y.length - (intOf t10).toNat)
  case atStart => exact ⟨0, Nat.zero_le _, rfl, hown2, hbw⟩
  case round =>
   clear hown2 hbw;obtain ⟨i, hil, rfl, hown, hnx⟩ := hrel;have hi6 : i <= 1000000 := by omega
   rcases Nat.lt_or_ge i y.length with hiy | hiy
   ·go_wp2_with fail
    obtain ⟨wo, hwo⟩ : ∃ wo : World, wo = wr := ⟨_, rfl⟩;subst hwo;obtain ⟨p0, c0, rfl, _⟩ := own_shape hown;go_loopw [9] (fun t9 wr => ∃ (L : List Int) (p1 : Option Addr) (c1 : Nat), t9 = .slice p1 L.length c1 /\ (0 < L.length -> ∃ g, p1 = some ⟨g, 0, none⟩ /\ w.heap.size <= g) /\ Hid (L = jl x y kz i \/ (x.length <= i /\ L = jl x y kz i ++ [0])) /\ L.length <= 1000001 /\ i <= L.length /\ L.length <= max x.length (i + 1) /\ wr.ownsRow w.heap.size 3 1 t9 L.length (L.map fun x : Int => Value.int .i64 x) /\ Below w.heap.size w wr)
     (fun t9 _ => i + 1 - (match t9 with | .slice _ n _ => n | _ => 0))
    case atStart =>
     obtain ⟨p9, c9, e9, h9⟩ := own_shape hown;cases e9;exact ⟨_, _, _, rfl, h9, .inl rfl, by rw [jl_length]; omega, by rw [jl_length]; omega, by rw [jl_length]; omega, hown, hnx⟩
    case round =>
     clear hown hnx;obtain ⟨L, p1, c1, rfl, hsh, hL, hL1, hL2, hL3, hown, hnx⟩ := hrel;rcases Nat.lt_or_ge i L.length with hLi | hLi
     ·obtain ⟨g, rfl, hg⟩ := hsh (by omega)
      have hcell := hown.cellAt i (by omega);rw [List.getElem?_map, List.getElem?_eq_getElem hLi, Option.map_some] at hcell;have hfro := hown.frozenAt i;have hney : y ≠ [] := List.ne_nil_of_length_pos (by omega);obtain ⟨bY, offy, rfl, hbly, hcelly⟩ := hs hney;have hc2 := zcq hnx hbly (hcelly i hiy);have hyb : y[i] < B4 := HY.out _ (List.getElem_mem hiy);obtain ⟨yk, hye⟩ : ∃ yk, yk = (y[i] : Int) := ⟨_, rfl⟩;obtain ⟨lk, hlk⟩ : ∃ lk, lk = L[i] := ⟨_, rfl⟩;rw [<- hye] at hc2;rw [<- hlk] at hcell;have hyk0 : 0 <= yk /\ yk < 10000 := by unfold B4 at hyb; omega
      have hlb : -100010000 <= lk /\ lk <= 100010000 := by
       rcases hL.out with e | ⟨_, e⟩
       ·exact jl_bound HX.out HY.out hk i _ (by rw [hlk]; subst e; exact List.getElem_mem _)
       ·have hm9 : lk ∈ jl x y kz i ++ [0] := by rw [hlk]; subst e; exact List.getElem_mem _
        rcases List.mem_append.1 hm9 with h5 | h5
        ·exact jl_bound HX.out HY.out hk i _ h5
        ·simp at h5; omega
      have hky : -100000000 <= kz * yk /\ kz * yk <= 100000000 := by
       rcases Int.le_total 0 kz with h0 | h0
       ·have h1 : kz * yk <= 10000 * 10000 := Int.mul_le_mul hk.2 (by omega) (by omega) (by omega)
        have h2 : 0 <= kz * yk := Int.mul_nonneg h0 hyk0.1;omega
       ·have h1 : (-kz) * yk <= 10000 * 10000 := Int.mul_le_mul (by omega) (by omega) (by omega) (by omega)
        have h2 : 0 <= (-kz) * yk := Int.mul_nonneg (by omega) hyk0.1;rw [Int.neg_mul] at h1 h2;omega
      have hnew : Hid (L.set i (lk + kz * yk) = jl x y kz (i + 1)) := by
       unfold Hid;have hyy : y[i]?.getD 0 = y[i] := by rw [List.getElem?_eq_getElem hiy]; rfl
       rcases hL.out with e | ⟨hxi, e⟩
       ·have hix : i < x.length := by rw [e, jl_length] at hLi; omega
        have h5 := jl_at_in x y kz i hix (by rw [jl_length]; omega);have h6 : lk = (x[i] : Int) := by rw [hlk, <- h5]; subst e; rfl
        rw [<- jl_step_in x y kz i hix _ rfl, e, h6, hye, hyy]
       ·have h6 : lk = 0 := by
         rw [hlk]; subst e;rw [List.getElem_append_right (by rw [jl_length]; omega)]; simp
        rw [<- jl_step_app x y kz i hxi, e, h6, hye, hyy]
      have hownd : wr.drew.ownsRow w.heap.size 3 1 (.slice (some ⟨g, 0, none⟩) L.length c1) L.length (L.map fun x : Int => Value.int .i64 x) := hown;have hst := hownd.stored i (.int .i64 (lk + kz * yk));rw [List.map_set.symm] at hst;have hown2 : (wr.drew.setCell ⟨g, i, none⟩ (.int .i64 (lk + kz * yk))).ownsRow w.heap.size 3 1 (.slice (some ⟨g, 0, none⟩) L.length c1) (jl x y kz (i + 1)).length ((jl x y kz (i + 1)).map fun x : Int => Value.int .i64 x) := by
       rw [<- hnew.out, List.length_set]; exact hst.1
      have hbl2 := hnx.drew.setCell (p := ⟨g, i, none⟩) hg (.int .i64 (lk + kz * yk));clear hst hnew hL hs hcelly hye hlk hsh;clear hownd;have f1 : (0 : Int) <= (i : Int) := by omega
      have f2 : (i : Int) < (L.length : Int) := by omega
      have f3 : (i : Int) < (y.length : Int) := by omega
      go_wp2;go_region;go_wp2;go_roundw
      case rel => exact ⟨i + 1, by omega, by go_num, hown2, hbl2⟩
      case measure => simp [intOf]; omega
     ·have hLe : L.length = i := by omega
      have hxi : Hid (L = jl x y kz i /\ x.length <= i) := by
       rcases hL.out with e | ⟨h1, e⟩
       ·refine ⟨e, ?_⟩
        rw [e, jl_length] at hLe; omega
       ·exfalso
        rw [e, List.length_append, jl_length] at hLe;simp at hLe; omega
      have HLE := Lib.hid hLe;clear hL hLe;go_wp2_with (first | (at_builtin; refine wpList_append_own _ rfl _ _ 91 rfl w.heap.size 3 i0 (.int .i64 0) 1 8 Tryz.underlying91 hi hz0 hz1 hz2 rfl (by decide) _ _ _ rfl (hown.alloc _) ⟨wr.heap.size, 0, none⟩ 1 1 [.int .i64 0] rfl rfl (cell_one_i64 _ _ _) (one_cell_i64 _) (by unfold maxLen; omega) (by omega) (by have := hnx.size; simp; omega) ?_));intro v' w2 hown2 hgr2 _;obtain ⟨p3, c3, rfl, hsh3⟩ := own_shape hown2;have hown3 : w2.ownsRow w.heap.size 3 1 (.slice p3 (L.length + 1) c3) (L ++ [0]).length ((L ++ [0]).map fun x : Int => Value.int .i64 x) := by
       rw [List.map_append, List.length_append]; exact hown2
      have hbl2 := below_append hnx hnx.size hown hgr2;have hL9 : Hid (L ++ [0] = jl x y kz i ++ [0]) := by unfold Hid; rw [hxi.out.1]
      have hsh4 : 0 < (L ++ [0]).length -> ∃ g, p3 = some ⟨g, 0, none⟩ /\ w.heap.size <= g := fun _ => hsh3 (by omega)
      have hsl : Hid (Value.slice p3 (L.length + 1) c3 = Value.slice p3 (L ++ [0]).length c3) := by unfold Hid; rw [List.length_append]; rfl
      clear hown2 hown hgr2 hnx hsh3;go_wp2;go_roundw
      case rel => exact ⟨L ++ [0], p3, c3, hsl.out, hsh4, .inr ⟨hxi.out.2, hL9.out⟩, by simp; omega, by simp; omega, by simp; omega, hown3, hbl2⟩
      case measure =>
       show i + 1 - (L.length + 1) < i + 1 - L.length;omega
   ·have hie : i = y.length := by omega
    have hrd := RdI.of_owns rfl hown;have hfr := FreshV.of_owns hown;have hlen9 : (jl x y kz i).length <= 3000000 := by rw [jl_length]; omega
    have hbd : ∀ z ∈ jl x y kz i, -100000000000000000 <= z /\ z <= 100000000000000000 := fun z hz => by
     have := jl_bound HX.out HY.out hk i z hz; omega
    have HBD := Lib.hid hbd;have HV : Hid (ival (jl x y kz i) = n) := by rw [hie]; exact HN
    have HRD := Lib.hid hrd;clear hown hie hbd hrd;go_wp2_with (go_at_call 222; refine (carry4_any _ _ _ n HRD.out hlen9 HBD.out HV.out).mono ?_; rintro e w3 ⟨v3, rfl, hv3, hb3⟩);go_ret;exact ⟨_, rfl, ⟨hv3.1, fun a l c e => Nat.le_trans hnx.size (hv3.2 a l c e)⟩, hnx.trans (hb3.mono hnx.size)⟩
theorem dsl_lt (s : ByteArray) (a b : Nat) (hd : ∀ c ∈ s.data.toList, isDig c) (hb : b <= a + 4) : dsl s a b < 10000 := by
 unfold dsl;refine Nat.lt_of_lt_of_le (dval_lt _ fun c hc => hd c (List.mem_of_mem_take (List.mem_of_mem_drop hc))) ?_;show 10 ^ _ <= 10 ^ 4;refine Nat.pow_le_pow_right (by decide) ?_;rw [List.length_drop, List.length_take]; omega
theorem dig_at (s : ByteArray) (hd : ∀ c ∈ s.data.toList, isDig c) (b : Nat) (h : b < s.size) : 48 <= s[b].toNat /\ s[b].toNat <= 57 := by
 have hb : b < s.data.toList.length := by simpa using h
 exact hd (s.data.toList[b]) (List.getElem_mem hb)
theorem take4_any (w : World) (s : ByteArray) (hd : ∀ c ∈ s.data.toList, isDig c) (hlen : s.size <= 3000000) :
 Calls Tryz.prog 188 #[.string s] w (Ret (fun v w' => Rd .i64 w' v (lm B4 (dval s.data.toList)) /\ FreshV w.heap.size v) w) := by
 obtain ⟨i0, hi, hz0, hz1, hz2⟩ := info_parts Tryz.info_i64;have HD := Lib.hid hd;have hsl : s.data.toList.length = s.size := by rw [Array.length_toList]; rfl
 have HSL := Lib.hid hsl;clear hd hsl;go_enter Tryz.func188, Tryz.ntmps188;go_wp2_with fail;go_loopw [3, 4] (fun t3 t4 wr => ∃ (m k : Nat) (ez : Int) (o : List Nat), t4 = .int .i64 ez /\ ez <= m /\ (0 < ez -> ez = m) /\ (ez <= 0 -> m = 0) /\ m <= s.size /\ m + k <= s.size + 1 /\ -4 <= ez /\ Hid (TakeInv s.data.toList m k o) /\ wr.ownsRow w.heap.size 3 1 t3 k (o.map fun x : Nat => Value.int .i64 (x : Int)) /\ Below w.heap.size w wr)
  (fun _ t4 _ => (intOf t4 + 4).toNat)
 case atStart => exact ⟨s.size, 0, _, [], rfl, Int.le_refl _, fun _ => rfl, fun h => by omega, Nat.le_refl _, by omega, by omega, by rw [<- HSL.out]; exact TakeInv.start _, ⟨rfl, .inl ⟨rfl, rfl⟩⟩, Below.refl _ _⟩
 case round =>
  obtain ⟨m, k, ez, o, rfl, he1, he2, he4, hms, hmk, he3, HT, hown, hnx⟩ := hrel;have hk6 : k <= 3000001 := by omega
  rcases Int.lt_or_le 0 ez with hpos | hneg
  ·obtain rfl := he2 hpos
   clear he1 he2 he3 he4;have hmp : 0 < m := by omega
   go_wp2_with fail;obtain ⟨wo, hwo⟩ : ∃ wo : World, wo = wr := ⟨_, rfl⟩;subst hwo;obtain ⟨a, ha⟩ : ∃ a, a = m - 4 := ⟨_, rfl⟩;have ham : a <= m := by omega
   have ham4 : m <= a + 4 := by omega
   have HA := Lib.hid ha;have hmax : Hid (max 0 ((m : Int) - 4) = (a : Int)) := by unfold Hid; omega
   clear ha;rw [hmax.out];go_loopw [5, 6] (fun t5 t6 wr => ∃ (j : Nat) (nz : Int), a <= j /\ j <= m /\ t6 = .int .i64 j /\ t5 = .int .i64 nz /\ Hid (nz = (dsl s a j : Nat)) /\ 0 <= nz /\ nz < 10000 /\ wr = wo) (fun _ t6 _ => m - (intOf t6).toNat)
   case atStart => exact ⟨a, 0, Nat.le_refl _, ham, rfl, rfl, by unfold Hid; rw [dsl_self]; rfl, by omega, by omega, rfl⟩
   case round =>
    obtain ⟨j, nz, haj, hjm, rfl, rfl, HNZ, hn0, hn1, rfl⟩ := hrel;have hj6 : j <= 3000000 := by omega
    rcases Nat.lt_or_ge j m with hlt | hge
    ·have hjs : j < s.size := by omega
     have hdg := dig_at s HD.out j hjs;have hst : Hid (dsl s a (j + 1) = 10 * dsl s a j + (s[j].toNat - 48)) := dsl_step s a j hjs haj;have hlt4 := dsl_lt s a (j + 1) HD.out (by omega);have HNX : Hid (10 * nz + (s[j].toNat : Int) - 48 = (dsl s a (j + 1) : Nat)) := by
      unfold Hid; rw [hst.out, HNZ.out]; omega
     have hnx1 : Hid (0 <= 10 * nz + (s[j].toNat : Int) - 48 /\ 10 * nz + (s[j].toNat : Int) - 48 < 10000) := by unfold Hid; rw [HNX.out]; omega
     clear hlt4 hst;go_wp2_with fail;go_roundw
     case rel => exact ⟨j + 1, _, by omega, by omega, by go_num, rfl, HNX, hnx1.out.1, hnx1.out.2, trivial⟩
     case measure => simp [intOf]; omega
    ·have hjm' : j = m := by omega
     have HX : Hid (TakeInv s.data.toList (m - 4) (k + 1) (o ++ [dsl s a m])) := HT.out.step HD.out (by rw [HSL.out]; omega) (by unfold dsl; rw [HA.out]);have HNM : Hid (nz = (dsl s a m : Nat)) := by rw [<- hjm']; exact HNZ
     clear hjm' HNZ HT;go_wp2_with (first | (at_builtin; refine wpList_append_own _ rfl _ _ 91 rfl w.heap.size 3 i0 (.int .i64 0) 1 8 Tryz.underlying91 hi hz0 hz1 hz2 rfl (by decide) _ _ _ rfl (hown.alloc _) ⟨wr.heap.size, 0, none⟩ 1 1 [.int .i64 nz] rfl rfl (cell_one_i64 _ _ _) (one_cell_i64 _) (by unfold maxLen; omega) (by omega) (by have := hnx.size; simp; omega) ?_));intro v' w2 hown2 hgr2 _;have hown3 : w2.ownsRow w.heap.size 3 1 v' (k + 1) ((o ++ [dsl s a m]).map fun x : Nat => Value.int .i64 (x : Int)) := by
      rw [<- map_snoc_i64, <- HNM.out]; exact hown2
     have hbl2 := below_append hnx hnx.size hown hgr2;clear hown2 hown hgr2 hnx;go_wp2_with fail;go_roundw
     case rel => exact ⟨m - 4, k + 1, _, _, rfl, by omega, by omega, by omega, by omega, by omega, by omega, HX, hown3, hbl2⟩
     case measure => simp [intOf]; omega
  ·have HT0 : Hid (dropZ o = lm B4 (dval s.data.toList)) := by
    have h0 := he4 hneg;rw [h0] at HT;exact HT.out.done
   have hlo : o.length = k := HT.out.1;have hrd : Rd .i64 wr _ o := Rd.of_owns rfl (by rw [hlo]; exact hown);have hfr := FreshV.of_owns hown;have HRD := Lib.hid hrd;clear hlo hown he2 he4 hrd;go_wp2_with fail;refine (cut4_full _ _ _ HRD.out).mono ?_;rintro e w3 ⟨v3, rfl, hv3, rfl⟩;go_wp2_with fail;go_ret;exact ⟨_, rfl, ⟨HT0.out ▸ hv3.1, hv3.2 _ hfr⟩, hnx⟩
end Go.Proofs.YtgdpoankaojklaaGreatDoor
namespace Go.Proofs.YtgdpoankaojklaaGreatDoor
open Go.RowKit Go.Lib
theorem pad4_len (x : Nat) (hx : x < 10000) : (pad 4 x).length = 4 := pad_length 4 x (by decide) hx
theorem dec_len_drop {n j : Nat} (hj : j < (lm B4 n).length) : (decDigits (lval B4 ((lm B4 n).drop j))).length <= 4 * ((lm B4 n).length - j) := by
 rw [len_decDigits_le _ _ (by omega)];have h := lval_lt B4 ((lm B4 n).drop j) (fun x hx => lm_lt B4 n two_le_B4 x (List.mem_of_mem_drop hx));rw [List.length_drop] at h;rw [Nat.pow_mul];exact h
theorem give4_any (w : World) (v : Value) (n : Nat) (h : Rd .i64 w v (lm B4 n)) (hlen : (lm B4 n).length <= 3000000) (hg : Good w) :
 Calls Tryz.prog 223 #[v] w (Ret (fun r _ => r = .string (BS (decDigits n))) w) := by
 obtain ⟨p, c, rfl, hc, hm, hr⟩ := h.open;have hm' : c <= 9223372036854775807 := hm;rcases Nat.eq_zero_or_pos n with rfl | hn
 ·rw [lm_zero] at *
  have HZ : Hid (BS (decDigits 0) = ⟨#[48]⟩) := by unfold Hid; rw [decDigits_zero]; rfl
  clear h hr;go_enter Tryz.func223, Tryz.ntmps223;go_wp2_with fail;go_ret;exact ⟨_, rfl, congrArg Value.string HZ.out.symm, Below.refl _ _⟩
 ·have hne : lm B4 n ≠ [] := lm_ne_nil B4 n two_le_B4 hn
  obtain ⟨b, off, rfl, hbl, hcell⟩ := hr hne;have hlp : 0 < (lm B4 n).length := List.length_pos_iff.2 hne;have hl0 : ((((lm B4 n).length : Nat) : Int) == 0) = false := by rw [beq_eq_false_iff_ne]; omega
  have hc0 := hcell ((lm B4 n).length - 1) (by omega);obtain ⟨tz, htz⟩ : ∃ tz : Int, tz = ((lm B4 n)[(lm B4 n).length - 1]'(by omega) : Nat) := ⟨_, rfl⟩;rw [<- htz] at hc0;have htl : ((lm B4 n)[(lm B4 n).length - 1]'(by omega) : Nat) < 10000 := lm_lt B4 n two_le_B4 _ (List.getElem_mem (show (lm B4 n).length - 1 < (lm B4 n).length by omega));have htz0 : 0 <= tz /\ tz < 10000 := by omega
  have HTZ := Lib.hid htz;have HCELL := Lib.hid hcell;have HLT := Lib.hid (lm_lt B4 n two_le_B4);clear h hr hcell htz htl hne;go_enter Tryz.func223, Tryz.ntmps223;go_wp2_with fail;refine (itoa_any tz (by omega) (by omega) _ hg).mono ?_;rintro e w1 ⟨_, rfl, rfl, hb1⟩;have hS : Hid (IS tz = BS (decDigits (lval B4 ((lm B4 n).drop ((lm B4 n).length - 1))))) := by
   unfold Hid;rw [(give_last (show (lm B4 n).length - 1 < (lm B4 n).length by omega)).1, HTZ.out, <- itoa_nat]; rfl
  rw [hS.out];go_wp2_with fail;go_loopw [3, 4] (fun t3 t4 wr => ∃ (j : Nat) (iz : Int) (S : ByteArray), t4 = .int .i64 iz /\ Hid (iz = (j : Int) - 1) /\ -1 <= iz /\ iz < (lm B4 n).length /\ j < (lm B4 n).length /\ t3 = .string S /\ Hid (S = BS (decDigits (lval B4 ((lm B4 n).drop j)))) /\ Below w.heap.size w wr) (fun _ t4 _ => (RowKit.intOf t4 + 1).toNat)
  case atStart => exact ⟨(lm B4 n).length - 1, _, _, rfl, by unfold Hid; omega, by omega, by omega, by omega, rfl, rfl, hb1⟩
  case round =>
   clear hb1 hc0 hl0;obtain ⟨j, iz, S, rfl, HI, hi1, hi2, hjl, rfl, HS, hnx⟩ := hrel;rcases Int.lt_or_le iz 0 with hneg | hge
   ·have hj0 : Hid (S = BS (decDigits n)) := by
     have : j = 0 := by have := HI.out; omega
     unfold Hid;rw [HS.out, this, List.drop_zero, lval_lm B4 n two_le_B4]
    go_wp2_with fail;go_ret;exact ⟨_, rfl, congrArg Value.string hj0.out, hnx⟩
   ·obtain ⟨i, rfl⟩ : ∃ i : Nat, iz = (i : Int) := ⟨iz.toNat, by omega⟩
    have hij : Hid (j = i + 1) := by have := HI.out; unfold Hid; omega
    have hil : i < (lm B4 n).length := by omega
    have hc1 := zcq hnx hbl (HCELL.out i hil);have hxl : ((lm B4 n)[i] : Nat) < 10000 := HLT.out _ (List.getElem_mem hil);obtain ⟨xz, hxz⟩ : ∃ xz : Int, xz = ((lm B4 n)[i] : Nat) := ⟨_, rfl⟩;rw [<- hxz] at hc1;have hxz0 : 0 <= xz /\ xz < 10000 := by omega
    have HXZ := Lib.hid hxz;have hSl : S.size <= 12000000 := by
     have := dec_len_drop hjl;rw [HS.out, BS_size]; omega
    have hIT : Hid (IS (10000 + xz) = BS (49 :: pad 4 (lm B4 n)[i])) := by
     unfold Hid;have h1 := decDigits_shift 1 4 (lm B4 n)[i] (by decide) (by decide) hxl;rw [show 1 * 10 ^ 4 + (lm B4 n)[i] = 10000 + (lm B4 n)[i] from rfl, decDigits_one (i := 1) (by omega)] at h1;rw [HXZ.out, show (10000 + ((lm B4 n)[i] : Nat) : Int) = ((10000 + (lm B4 n)[i] : Nat) : Int) by omega];unfold IS;rw [itoa_nat, h1]; rfl
    have hgr := hg.below hnx;have hpl := pad4_len (lm B4 n)[i] hxl;have HPL := Lib.hid hpl;clear hxl hxz hi1 hpl;go_wp2_with fail;refine (itoa_any (10000 + xz) (by omega) (by omega) _ hgr).mono ?_;rintro e w2 ⟨_, rfl, rfl, hb2⟩;have hIT2 : Hid ((IS (10000 + xz)).size = 5) := by unfold Hid; rw [hIT.out, BS_size, List.length_cons, HPL.out]
    generalize IS (10000 + xz) = T at *;have hT1 : 5 <= T.size := by rw [hIT2.out]; omega
    have hT2 : T.size <= 5 := by rw [hIT2.out]; omega
    have hT3 : (T.extract 1 T.size).size <= 4 := by rw [ByteArray.size_extract]; omega
    have hT3' := hT3;rw [ByteArray.size_extract] at hT3';have HSX : Hid (S ++ T.extract 1 T.size = BS (decDigits (lval B4 ((lm B4 n).drop i)))) := by
     unfold Hid;have hi1 : i + 1 < (lm B4 n).length := by have := hij.out; omega
     have hS2 := HS.out;rw [hij.out] at hS2;rw [give_step hil (lval_drop_pos hi1), hS2, hIT.out];apply ba_ext;rw [BS_list, ba_append, BS_list, extract_to_end, BS_list];rfl
    have hbel := hnx.trans (hb2.mono hnx.size);go_wp2_with fail;go_roundw
    case rel => exact ⟨i, _, _, rfl, by unfold Hid; omega, by omega, by omega, hil, rfl, HSX, hbel⟩
    case measure => simp [RowKit.intOf]
def sgn (m : Bool) (n : Nat) : Int := if m then -(n : Int) else n
theorem made_any (w : World) (m : Bool) (v : Value) (l : List Nat) (hl : ∀ z ∈ l, z < B4) (h : Rd .i64 w v l) (hlen : l.length <= 3000000) (hg : Good w) :
 Calls Tryz.prog 190 #[.bool m, v] w (Ret (fun r _ => r = .string (IS (sgn m (lval B4 l)))) w) := by
 have hd := dropZ_eq B4 two_le_B4 l hl;obtain ⟨n, hn⟩ : ∃ n, lval B4 l = n := ⟨_, rfl⟩;rw [hn] at hd ⊢;have hll : (lm B4 n).length <= 3000000 := by
  refine Nat.le_trans (lm_len_le B4 n l.length two_le_B4 ?_) hlen;rw [<- hn]; exact lval_lt B4 l hl
 obtain ⟨p, c, rfl, hc, hm, hr⟩ := h.open;have hm' : c <= 9223372036854775807 := hm;have HD := Lib.hid hd;have HH := Lib.hid h;clear h hd hn hr;go_enter Tryz.func190, Tryz.ntmps190;go_wp2_with fail;refine (cut4_any _ _ _ HH.out).mono ?_;rintro e w3 ⟨v3, rfl, hv3, rfl⟩;rw [HD.out] at hv3;obtain ⟨p3, c3, rfl, hc3, hm3, hr3⟩ := hv3.open;have HV := Lib.hid hv3;clear hv3 hr3;rcases Nat.eq_zero_or_pos n with rfl | hn0
 ·rw [lm_zero] at *
  go_wp2_with (go_at_call 223; refine (give4_any _ _ 0 (by rw [lm_zero]; exact HV.out) (by rw [lm_zero]; simp) hg).mono ?_; rintro e w2 ⟨_, rfl, rfl, hb2⟩);all_goals
   go_ret;exact ⟨_, rfl, congrArg Value.string (by rw [show sgn m 0 = ((0 : Nat) : Int) by cases m <;> rfl]; unfold IS; rw [itoa_nat]; rfl), hb2⟩
 ·have hl0 : 0 < (lm B4 n).length := List.length_pos_iff.2 (lm_ne_nil B4 n two_le_B4 hn0)
  have HP : Hid ((⟨#[45]⟩ : ByteArray) ++ BS (decDigits n) = IS (-(n : Int))) := by
   unfold Hid;apply ba_ext;rw [ba_append, BS_list, IS_list, itoa_neg (by omega)];simp
  have hS : (BS (decDigits n)).size <= 12000000 := by
   have := dec_len_drop (n := n) (j := 0) hl0;rw [List.drop_zero, lval_lm B4 n two_le_B4] at this;rw [BS_size]; omega
  cases m;all_goals
   go_wp2_with (go_at_call 223; refine (give4_any _ _ n HV.out hll hg).mono ?_; rintro e w2 ⟨_, rfl, rfl, hb2⟩);go_ret;first
    | exact ⟨_, rfl, congrArg Value.string HP.out, hb2⟩
    | exact ⟨_, rfl, congrArg Value.string (show BS (decDigits n) = IS (sgn false n) from by unfold IS; rw [show sgn false n = ((n : Nat) : Int) from rfl, itoa_nat]; rfl), hb2⟩
theorem parts_any (w : World) (va vb : Value) (a b : Nat) (ha : Rd .i64 w va (lm B4 a)) (hb : Rd .i64 w vb (lm B4 b)) (hb0 : 0 < b)
 (hla : (lm B4 a).length <= 900000) (hlb : (lm B4 b).length <= 900000) :
 Calls Tryz.prog 187 #[va, vb] w (Ret (fun v w' => ∃ vq vr, v = .tuple #[vq, vr] /\ Rd .i64 w' vq (lm B4 (a / b)) /\ Rd .i64 w' vr (lm B4 (a % b))) w) := by
 obtain ⟨i0, hi, hz0, hz1, hz2⟩ := info_parts Tryz.info_i64;obtain ⟨p, c, rfl, hc, hm, hr⟩ := ha.open;have HX := Lib.hid (lm_lt B4 a two_le_B4);have HVX := Lib.hid (lval_lm B4 a two_le_B4);obtain ⟨q, d, rfl, hd, hm2, hs⟩ := hb.open;have HB := Lib.hid hb;have HA := Lib.hid ha;clear ha hb hs;have hnil : ∀ x : World, Rd .i64 x (.slice none 0 0) (lm B4 0) := fun x => by rw [lm_zero]; exact RdC.nil0 _ _
 have HNIL := Lib.hid hnil;clear hnil;have hm' : c <= 9223372036854775807 := hm;have hn' : d <= 9223372036854775807 := hm2;go_enter Tryz.func187, Tryz.ntmps187;go_wp2_with (first | (at_make; refine wpList_make_full _ rfl _ _ 91 rfl w.heap.size 3 i0 (.int .i64 0) 1 Tryz.underlying91 hi hz0 hz1 _ _ _ _ (lm B4 a).length rfl rfl (by omega) (by omega) (by rw [hz2]; omega) (by unfold maxLen; omega) (Nat.le_refl _) ?_; intro w1 hown hgr));have harr : Arr .i64 w1 w.heap.size 3 (List.replicate (lm B4 a).length 0) := Arr.of_full rfl hown;have hb1 : Below w.heap.size w w1 := (Below.refl _ _).grown hgr (Nat.le_refl _) (fun k hk => by cases hk);have hstart : Hid (QuoAt B4 (lm B4 a) b (lm B4 a).length (List.replicate (lm B4 a).length 0)) := QuoAt.start (by decide) _ _;clear hgr hown;have hgs : w.heap.size + 1 <= w1.heap.size := harr.lt;go_loopw [7, 8] (fun t7 t8 wr => ∃ (i : Nat) (iz : Int) (qd : List Nat) (r : Nat), i <= (lm B4 a).length /\ t8 = .int .i64 iz /\ Hid (iz = (i : Int) - 1) /\ -1 <= iz /\ iz < 1000000 /\ Hid (QuoAt B4 (lm B4 a) b i qd) /\ Hid (r = lval B4 ((lm B4 a).drop i) % b)
  /\ Rd .i64 wr t7 (lm B4 r) /\ FreshV (w.heap.size + 1) t7 /\ Arr .i64 wr w.heap.size 3 qd /\ Below w.heap.size w wr /\ w.heap.size + 1 <= wr.heap.size) (fun _ t8 _ => (RowKit.intOf t8 + 1).toNat)
 case atStart =>
  refine ⟨(lm B4 a).length, _, _, 0, Nat.le_refl _, rfl, rfl, by omega, by omega, hstart, ?_, HNIL.out _, (by intro a l c e; cases e), harr, hb1, hgs⟩;unfold Hid; rw [List.drop_eq_nil_of_le (Nat.le_refl _)]; simp [lval]
 case round =>
  clear harr hb1 hgs hstart;obtain ⟨i, iz, qd, r, hil, rfl, HI, hi1, hi2, HQ, HR, hr7, hf7, harr, hnx, hgs⟩ := hrel;have hrb : r < b := by rw [HR.out]; exact Nat.mod_lt _ hb0
  have hrl : (lm B4 r).length <= (lm B4 b).length := lm_len_le B4 r _ two_le_B4 (Nat.lt_trans hrb (lm_len_lt B4 b two_le_B4));have hql : qd.length = (lm B4 a).length := HQ.out.1;have HQL := Lib.hid hql;obtain ⟨p7, c7, rfl, hc7, hm7, hr7'⟩ := hr7.open;have HR7 := Lib.hid hr7;clear hr7 hql;rcases (by omega : iz < 0 \/ 0 <= iz) with hneg | hge
  ·have HQ0 : Hid (dropZ qd = lm B4 (a / b) /\ r = a % b) := by
    have h0 : i = 0 := by have := HI.out; omega
    have h1 := HQ.out;have h2 := HR.out;rw [h0] at h1 h2;refine ⟨?_, ?_⟩
    ·rw [QuoAt.done two_le_B4 h1, HVX.out]
    ·rw [h2, List.drop_zero, HVX.out]
   have hrd := harr.rd (by unfold maxLen; rw [HQL.out]; omega);rw [HQL.out] at hrd;have HRD := Lib.hid hrd;clear hrd hr7';go_wp2_with fail;refine (cut4_any _ _ _ HRD.out).mono ?_;rintro e w3 ⟨v3, rfl, hv3, rfl⟩;rw [HQ0.out.1] at hv3;obtain ⟨p3, c3, rfl, hc3, hm3, hr3⟩ := hv3.open;clear hr3;go_wp2_with fail;refine bodyPost_ret (v := .tuple #[.slice p3 (lm B4 (a / b)).length c3, .slice p7 (lm B4 r).length c7]) (by simp [results, Tryz.results187, go_sem]) rfl ?_;exact ⟨_, rfl, ⟨_, _, rfl, hv3, by rw [<- HQ0.out.2]; exact HR7.out⟩, hnx⟩
  ·obtain ⟨k, rfl⟩ : ∃ k : Nat, iz = (k : Int) := ⟨iz.toNat, by omega⟩
   have hik : Hid (i = k + 1) := by have := HI.out; unfold Hid; omega
   have hkl : k < (lm B4 a).length := by have := hik.out; omega
   have hne : lm B4 a ≠ [] := List.ne_nil_of_length_pos (by omega);obtain ⟨bX, oX, rfl, hblX, hcX⟩ := hr hne;have hx0 := zcq hnx hblX (hcX k hkl);have hxb : (lm B4 a)[k] < B4 := HX.out _ (List.getElem_mem hkl);obtain ⟨xz, hxz⟩ : ∃ xz : Int, xz = ((lm B4 a)[k] : Nat) := ⟨_, rfl⟩;rw [<- hxz] at hx0;have HXZ := Lib.hid hxz;have hk6 : k <= 1000000 := by omega
   have hr6 : (lm B4 r).length <= 1000000 := by omega
   obtain ⟨R, hR⟩ : ∃ R, R = r * B4 + (lm B4 a)[k] := ⟨_, rfl⟩;have hcd : Hid (dropZ ((lm B4 a)[k] :: lm B4 r) = lm B4 R) := by unfold Hid; rw [hR]; exact lm_cons_drop two_le_B4 hxb
   have hRb : R < b * 10000 := by
    rw [hR];have h1 : (r + 1) * B4 <= b * B4 := Nat.mul_le_mul_right _ hrb;rw [Nat.add_mul] at h1;unfold B4 at *;omega
   have HRR := Lib.hid hR;have hRl : (lm B4 R).length <= 1000000 := by
    refine Nat.le_trans (lm_len_le B4 R ((lm B4 b).length + 1) two_le_B4 ?_) (by omega);refine Nat.lt_of_lt_of_le hRb ?_;rw [Nat.pow_succ];exact Nat.mul_le_mul_right _ (Nat.le_of_lt (lm_len_lt B4 b two_le_B4))
   have hQk : Hid (∀ d, d = R / b -> QuoAt B4 (lm B4 a) b k (qd.set k d)) := by
    intro d hd;have h1 := HQ.out;have h2 := HR.out;rw [hik.out] at h1 h2;exact h1.step hb0 HX.out hkl h2 (by rw [hd, hR])
   have hRk : Hid (R % b = lval B4 ((lm B4 a).drop k) % b) := by
    unfold Hid;have h2 := HR.out;rw [hik.out] at h2;rw [hR]; exact rest_step hkl h2
   have HRB := Lib.hid hRb;clear hxz hcX hr hR hxb hrb hi1 hi2 hRb;go_upto_region 6 with fail;go_cut [7] (fun s7 wx => Rd .i64 wx s7 (lm B4 R) /\ FreshV (w.heap.size + 1) s7 /\ Arr .i64 wx w.heap.size 3 qd /\ Below w.heap.size w wx /\ w.heap.size + 1 <= wx.heap.size)
   case first =>
    rcases Nat.eq_zero_or_pos r with hr0 | hrpos
    ·subst hr0
     rw [lm_zero] at *;have hone : Rd .i64 (wr.alloc (.cells #[.int .i64 xz] 3)) (.slice (some ⟨wr.heap.size, 0, none⟩) 1 1) [(lm B4 a)[k]] := by
      refine ⟨_, _, rfl, Nat.le_refl _, by unfold maxLen; omega, rfl, fun _ => ⟨wr.heap.size, 0, rfl, fun i x hx => ?_⟩⟩;cases i with
      | zero => simp at hx; rw [World.cell?_alloc_at _ _ _ _ rfl, <- hx, <- HXZ.out]; rfl
      | succ i => simp at hx
     have HONE := Lib.hid hone;have hfr1 : FreshV (w.heap.size + 1) (.slice (some ⟨wr.heap.size, 0, none⟩) 1 1) := by intro a' l' c' e; cases e; exact hgs
     clear hone;cases p7;all_goals
      go_wp2_with fail;refine (cut4_full _ _ _ HONE.out).mono ?_;rintro e w3 ⟨v3, rfl, ⟨hv3, hf3⟩, rfl⟩;rw [hcd.out] at hv3;go_wp2_with fail;go_meet;exact ⟨hv3, hf3 _ hfr1, (heap_old _ _ _ harr.lt).trans harr, hnx.alloc (by omega) _, by simp; omega⟩
    ·have hner : lm B4 r ≠ [] := lm_ne_nil B4 r two_le_B4 hrpos
     obtain ⟨b5, o5, rfl, hbl5, hc5'⟩ := hr7' hner;have hrow : (wr.alloc (.cells #[.int .i64 xz] 3)).ownsRow wr.heap.size 3 1 (.slice (some ⟨wr.heap.size, 0, none⟩) 1 1) 1 [.int .i64 xz] :=
      ⟨rfl, .inr ⟨wr.heap.size, 1, _, rfl, Nat.le_refl _, heap_alloc_new _ _, Nat.le_refl _, by unfold maxLen; omega, rfl, rfl⟩⟩
     have hnews : ∀ j u, ((lm B4 r).map fun x : Nat => Value.int .i64 (x : Int))[j]? = some u -> (wr.alloc (.cells #[.int .i64 xz] 3)).cell? ((⟨b5, o5, none⟩ : Addr).add j) = some u := by
      intro j u hu;have hj : j < (lm B4 r).length := by have := (List.getElem?_eq_some_iff.1 hu).1; simpa using this
      rw [List.getElem?_map, List.getElem?_eq_getElem hj] at hu;cases hu;rw [addr_add];show (wr.alloc (.cells #[.int .i64 xz] 3)).cell? ⟨b5, o5 + j, none⟩ = some (.int .i64 (((lm B4 r)[j] : Nat) : Int));exact cell_alloc_l _ (hc5' j hj)
     have hnew1 : ∀ u ∈ (lm B4 r).map fun x : Nat => Value.int .i64 (x : Int), u.oneCell' = true := by
      intro u hu;obtain ⟨y, _, rfl⟩ := List.mem_map.1 hu;rfl
     have HNEWS := Lib.hid hnews;clear hnews hc5' hr7';go_wp2_with (first | (at_builtin; refine wpList_append_own _ rfl _ _ 91 rfl wr.heap.size 3 i0 (.int .i64 0) 1 8 Tryz.underlying91 hi hz0 hz1 hz2 rfl (by decide) _ _ _ rfl hrow ⟨b5, o5, none⟩ (lm B4 r).length c7 ((lm B4 r).map fun x : Nat => Value.int .i64 (x : Int)) rfl (by simp) HNEWS.out hnew1 (by unfold maxLen; omega) (by omega) (by simp) ?_));intro v' w2 hown2 hgr2 _;have hrd2 : Rd .i64 w2 v' ((lm B4 a)[k] :: lm B4 r) := by
      refine Rd.of_owns (base := wr.heap.size) (e := 3) rfl ?_;rw [List.length_cons, Nat.add_comm, List.map_cons, <- HXZ.out];exact hown2
     have hfr2 : FreshV (w.heap.size + 1) v' := fun a' l' c' e => Nat.le_trans hgs (FreshV.of_owns hown2 a' l' c' e);have hB3 : Below w.heap.size w w2 := (hnx.alloc (by omega) _).grown hgr2 (by simp; omega) (fun k hk => by have e : wr.heap.size = k := (Option.some.inj hk); omega);have harr3 : Arr .i64 w2 w.heap.size 3 qd := (hgr2.block w.heap.size (by simp; omega) (by intro e; have e : w.heap.size = wr.heap.size := (Option.some.inj e); omega)).trans ((heap_old _ _ _ harr.lt).trans harr);have hw2s : w.heap.size + 1 <= w2.heap.size := by have := hgr2.size; simp at this; omega
     have HRD2 := Lib.hid hrd2;clear hown2 hgr2 hrd2 hrow HNEWS hnew1;go_wp2_with fail;refine (cut4_full _ _ _ HRD2.out).mono ?_;rintro e w3 ⟨v3, rfl, ⟨hv3, hf3⟩, rfl⟩;rw [hcd.out] at hv3;go_wp2_with fail;go_meet;exact ⟨hv3, hf3 _ hfr2, harr3, hB3, hw2s⟩
   case rest =>
    obtain ⟨hs7, hfs7, harr', hnx', hgs'⟩ := hcut;clear hr7' HR7 harr hnx hgs hf7 hx0;obtain ⟨p8, c8, rfl, hc8, hm8, hr8⟩ := hs7.open;have HS7 := Lib.hid hs7;clear hs7 hr8;go_wp2_with fail;obtain ⟨wo, hwo⟩ : ∃ wo : World, wo = wr := ⟨_, rfl⟩;subst hwo;go_loopw [9, 10] (fun t9 t10 wr => ∃ (lo hi : Nat), t9 = .int .i64 lo /\ t10 = .int .i64 hi /\ lo <= hi /\ hi <= 9999 /\ Hid (lo * b <= R /\ R < (hi + 1) * b) /\ Below wc.heap.size wc wr) (fun t9 t10 _ => (RowKit.intOf t10).toNat - (RowKit.intOf t9).toNat)
    case atStart => exact ⟨0, 9999, rfl, rfl, by omega, by omega, ⟨by omega, by have := HRB.out; omega⟩, Below.refl _ _⟩
    case round =>
     obtain ⟨lo, hi, rfl, rfl, hlh, hh9, HLH, hbel⟩ := hrel;have HBw : Hid (Rd .i64 wr (.slice q (lm B4 b).length d) (lm B4 b)) := RdC.below HB.out (hnx'.trans (hbel.mono hnx'.size));have HRw : Hid (Rd .i64 wr (.slice p8 (lm B4 R).length c8) (lm B4 R)) := RdC.below HS7.out hbel;have hb6 : (lm B4 b).length <= 1000000 := by omega
     rcases Nat.lt_or_ge lo hi with hlt | hge'
     ·obtain ⟨mid, hmid⟩ : ∃ mid : Nat, mid = (lo + hi + 1) / 2 := ⟨_, rfl⟩
      have hm1 : lo < mid /\ mid <= hi := by omega
      have HM : Hid (((lo : Int) + hi + 1) / 2 = (mid : Int)) := by unfold Hid; omega
      have hn0 : Hid (((0 : Nat) : Int) + (mid : Int) * (b : Int) = ((mid * b : Nat) : Int)) := by unfold Hid; push_cast; omega
      have hml : (lm B4 (mid * b)).length <= 1000000 := by
           refine Nat.le_trans (lm_len_le B4 (mid * b) ((lm B4 b).length + 1) two_le_B4 ?_) (by omega);rw [Nat.pow_succ, Nat.mul_comm];exact Nat.mul_lt_mul_of_lt_of_le (lm_len_lt B4 b two_le_B4) (by unfold B4; omega) (by decide)
      clear hmid;rcases Nat.lt_or_ge R (mid * b) with hR1 | hR1
      case' inl =>
           have hdb : Hid (decide (R < mid * b) = true) := decide_eq_true hR1
      case' inr =>
           have hdb : Hid (decide (R < mid * b) = false) := decide_eq_false (by omega)
      all_goals
           have HR1 := Lib.hid hR1;clear hR1;go_wp2_with fail;rw [HM.out];refine (joined4_any _ _ _ 0 b (mid * b) (mid : Int) (HNIL.out _) HBw.out (by omega) hn0.out (by rw [lm_zero]; simp) hb6).mono ?_;rintro e w2 ⟨v2, rfl, ⟨hv2, _⟩, hb2⟩;go_wp2_with fail;refine (less4_any _ _ _ R (mid * b) (RdC.below HRw.out hb2) hv2).mono ?_;rintro e w3 ⟨_, rfl, rfl, j3, rfl⟩;rw [hdb.out];have hbel3 : Below wc.heap.size wc (w2.drewN j3) := hbel.trans ((hb2.trans ((below_drewN w2 j3).mono hb2.size)).mono hbel.size);clear hb2 hv2;go_wp2_with fail;go_roundw
           case rel =>
            first
             | exact ⟨lo, mid - 1, rfl, by congr 1; omega, by omega, by omega, ⟨HLH.out.1, by rw [show mid - 1 + 1 = mid by omega]; exact HR1.out⟩, hbel3⟩
             | exact ⟨mid, hi, rfl, rfl, by omega, by omega, ⟨HR1.out, HLH.out.2⟩, hbel3⟩
           case measure => simp [RowKit.intOf]; omega
     ·have hlo : Hid (lo = R / b) := by
           have h1 : lo = hi := by omega
           have h2 := HLH.out;unfold Hid;rw [<- h1] at h2;exact ((Nat.div_eq_iff hb0).2 ⟨by omega, by rw [Nat.add_mul] at h2; omega⟩).symm
      have hn0 : Hid ((R : Int) + (-(lo : Int)) * (b : Int) = ((R % b : Nat) : Int)) := by
           unfold Hid;have := Nat.div_add_mod R b;rw [<- hlo.out] at this;generalize R % b = y at *;rw [<- this, Nat.mul_comm];push_cast;rw [Int.neg_mul]; omega
      have harr2 : Arr .i64 wr w.heap.size 3 qd := Arr.below harr' hbel;have hqk : k < qd.length := by rw [HQL.out]; exact hkl
      have hck := harr2.cell k hqk;have hcf := harr2.frozen k;have harr3 := harr2.set k lo (u := .int .i64 lo) rfl;have hb3 : Below w.heap.size w (wr.setCell ⟨w.heap.size, k, none⟩ (.int .i64 lo)) := (hnx'.trans (hbel.mono hnx'.size)).setCell (Nat.le_refl _) _;have HRx : Hid (Rd .i64 (wr.setCell ⟨w.heap.size, k, none⟩ (.int .i64 lo)) (.slice p8 (lm B4 R).length c8) (lm B4 R)) := RdC.set_fresh HRw.out hfs7 _;have HBx : Hid (Rd .i64 (wr.setCell ⟨w.heap.size, k, none⟩ (.int .i64 lo)) (.slice q (lm B4 b).length d) (lm B4 b)) := RdC.below HB.out hb3;have hgs3 : w.heap.size + 1 <= (wr.setCell ⟨w.heap.size, k, none⟩ (.int .i64 lo)).heap.size := by have := hbel.size; simp [World.setCell]; omega
      have f1 : (0 : Int) <= (k : Int) := by omega
      have f2 : (k : Int) < ((lm B4 a).length : Int) := by omega
      clear HRw HBw harr2;go_wp2_with fail;refine (joined4_any _ _ _ R b (R % b) (-(lo : Int)) HRx.out HBx.out (by omega) hn0.out hRl hb6).mono ?_;rintro e w2 ⟨v2, rfl, ⟨hv2, hf2⟩, hb2⟩;have harr4 := Arr.below harr3 hb2;have hb4 := hb3.trans (hb2.mono hb3.size);have hf4 : FreshV (w.heap.size + 1) v2 := fun a' l' c' e => Nat.le_trans hgs3 (hf2 a' l' c' e);have hgs4 : w.heap.size + 1 <= w2.heap.size := Nat.le_trans hgs3 hb2.size;clear hb2 hb3 harr3 HRx HBx hgs3 hck hcf hf2;go_wp2_with fail;go_roundw
      case rel => exact ⟨k, _, qd.set k lo, R % b, by omega, rfl, rfl, by omega, by omega, hQk.out lo hlo.out, hRk, hv2, hf4, harr4, hb4, hgs4⟩
      case measure => simp [RowKit.intOf]
theorem tup2 {a b : Bool} {s t : ByteArray} (h1 : a = b) (h2 : s = t) : Value.tuple #[.bool a, .string s] = Value.tuple #[.bool b, .string t] := by rw [h1, h2]
theorem head45 (s : ByteArray) (h : 0 < s.size) : hasPrefix s.data.toList [45] = decide (s[0].toNat = 45) := by
 have e : s.data.toList = s[0] :: s.data.toList.tail := by
  have h2 : 0 < s.data.toList.length := by rw [Array.length_toList]; exact h
  conv => lhs; rw [<- List.cons_head_tail (List.ne_nil_of_length_pos h2)]
  congr 1;rw [List.head_eq_getElem]; rfl
 rw [e];unfold hasPrefix;simp only [List.isPrefixOf, Bool.and_true];by_cases hc : s[0].toNat = 45
 ·have : s[0] = 45 := UInt8.toNat_inj.1 (by rw [hc]; rfl)
  simp [this]
 ·have : ¬ (45 : UInt8) = s[0] := fun h => hc (by rw [<- h]; rfl)
  simp [hc, this]
theorem split_any (s : ByteArray) (hs : s.size <= 1000000000000) (w : World) :
 Calls Tryz.prog 184 #[.string s] w (Drawn (fun v => v = .tuple #[.bool (hasPrefix s.data.toList [45]), .string (BS (trimPrefix s.data.toList [45]))]) w) := by
 rcases Nat.eq_zero_or_pos s.size with h0 | hpos
 ·have hnil : s.data.toList = [] := List.length_eq_zero_iff.1 (by rw [Array.length_toList]; exact h0)
  have HS : Hid (s = BS (trimPrefix s.data.toList [45]) /\ hasPrefix s.data.toList [45] = false) := by
   unfold Hid;rw [hnil];exact ⟨ba_ext (by rw [hnil]; rfl), rfl⟩
  have h1 : ¬ 0 < s.size := by omega
  have h2 : s.size <= 0 := by omega
  clear hnil h0;go_enter Tryz.func184, Tryz.ntmps184;go_wp2_with fail;go_ret2;exact ⟨_, rfl, tup2 HS.out.2.symm HS.out.1, dr_zero _⟩
 ·have hp := head45 s hpos
  obtain ⟨c0, hc0⟩ : ∃ c0 : Nat, s[0].toNat = c0 := ⟨_, rfl⟩;by_cases h45 : c0 = 45
  ·have HS : Hid (s.extract 1 s.size = BS (trimPrefix s.data.toList [45]) /\ hasPrefix s.data.toList [45] = true) := by
    unfold Hid;have h5 : hasPrefix s.data.toList [45] = true := by rw [hp, hc0]; exact decide_eq_true h45
    refine ⟨?_, h5⟩;apply ba_ext;rw [extract_to_end, BS_list];unfold trimPrefix;rw [if_pos h5]; rfl
   have t1 : ((c0 : Int) == 45) = true := by rw [beq_iff_eq]; omega
   have h1 : 1 <= s.size := hpos;clear hp h45;go_enter Tryz.func184, Tryz.ntmps184;go_wp2_with fail;go_region;go_wp2_with fail;go_ret2;exact ⟨_, rfl, tup2 HS.out.2.symm HS.out.1, dr_step ⟨0, rfl⟩ 1⟩
  ·have HS : Hid (s = BS (trimPrefix s.data.toList [45]) /\ hasPrefix s.data.toList [45] = false) := by
    unfold Hid;have h5 : hasPrefix s.data.toList [45] = false := by rw [hp, hc0]; exact decide_eq_false h45
    refine ⟨?_, h5⟩;apply ba_ext;rw [BS_list];unfold trimPrefix;rw [if_neg (by rw [h5]; simp)]
   have t1 : ((c0 : Int) == 45) = false := by rw [beq_eq_false_iff_ne]; omega
   clear hp h45;go_enter Tryz.func184, Tryz.ntmps184;go_wp2_with fail;go_ret2;exact ⟨_, rfl, tup2 HS.out.2.symm HS.out.1, dr_zero _⟩
theorem splitI_any (n : Int) (hsz : (IS n).size <= 100000) (w : World) :
 Calls Tryz.prog 184 #[.string (IS n)] w (Drawn (fun v => v = .tuple #[.bool (decide (n < 0)), .string (BS (decDigits n.natAbs))]) w) := by
 refine (split_any (IS n) (by omega) w).mono ?_;rintro e w' ⟨_, rfl, rfl, hd⟩;exact ⟨_, rfl, by rw [trim_IS, pre_IS], hd⟩
theorem ofR_any (n : Int) (h0 : -9223372036854775808 <= n) (h1 : n <= 9223372036854775807) (w : World) (hg : Good w) :
 Calls Tryz.prog 101 #[.int .i64 n] w (Ret (fun v _ => v = .string (IS n)) w) := by
 go_enter Tryz.func101, Tryz.ntmps101;go_wp2_with fail;refine (itoa_any n h0 h1 w hg).mono ?_;rintro e w' ⟨_, rfl, rfl, hb⟩;go_wp2_with fail;go_ret;exact ⟨_, rfl, rfl, hb⟩
theorem signR_any (n : Int) (hsz : (IS n).size <= 100000) (w : World) :
 Calls Tryz.prog 145 #[.string (IS n)] w (Drawn (fun v => v = .int .i64 n.sign) w) := by
 have h8 := IS_eq48 n;rcases Int.lt_trichotomy n 0 with h | h | h
 ·have hs : Hid (n.sign = -1) := Int.sign_eq_neg_one_of_neg h
  have hd : Hid (decide (n < 0) = true) := decide_eq_true h;clear h8;go_enter Tryz.func145, Tryz.ntmps145;go_wp2_with fail;refine (splitI_any n hsz _).mono ?_;rintro e w1 ⟨_, rfl, rfl, j, rfl⟩;rw [hd.out];go_wp2_with fail;go_ret;exact ⟨_, rfl, congrArg (Value.int .i64) hs.out.symm, j, rfl⟩
 ·subst h
  rw [decide_eq_true rfl] at h8;have hd : Hid (decide ((0 : Int) < 0) = false) := rfl;go_enter Tryz.func145, Tryz.ntmps145;go_wp2_with fail;refine (splitI_any 0 hsz _).mono ?_;rintro e w1 ⟨_, rfl, rfl, j, rfl⟩;rw [hd.out];go_wp2_with fail;go_ret;exact ⟨_, rfl, rfl, j, rfl⟩
 ·have hs : Hid (n.sign = 1) := Int.sign_eq_one_of_pos h
  have hd : Hid (decide (n < 0) = false) := decide_eq_false (by omega);rw [decide_eq_false (by omega)] at h8;go_enter Tryz.func145, Tryz.ntmps145;go_wp2_with fail;refine (splitI_any n hsz _).mono ?_;rintro e w1 ⟨_, rfl, rfl, j, rfl⟩;rw [hd.out];go_wp2_with fail;go_ret;exact ⟨_, rfl, congrArg (Value.int .i64) hs.out.symm, j, rfl⟩
theorem negR_any (n : Int) (hsz : (IS n).size <= 100000) (w : World) :
 Calls Tryz.prog 146 #[.string (IS n)] w (Drawn (fun v => v = .string (IS (-n))) w) := by
 have h8 := IS_eq48 n;have hD : Hid (BS (decDigits n.natAbs) = IS (n.natAbs : Int)) := by unfold Hid IS; rw [itoa_nat]; rfl
 rcases Int.lt_trichotomy n 0 with h | h | h
 ·have hs : Hid (BS (decDigits n.natAbs) = IS (-n)) := by unfold Hid; rw [hD.out]; congr 1; omega
  have hd : Hid (decide (n < 0) = true) := decide_eq_true h;clear h8;go_enter Tryz.func146, Tryz.ntmps146;go_wp2_with fail;refine (splitI_any n hsz _).mono ?_;rintro e w1 ⟨_, rfl, rfl, j, rfl⟩;rw [hd.out, hs.out];go_wp2_with fail;go_ret;exact ⟨_, rfl, rfl, j, rfl⟩
 ·subst h
  rw [decide_eq_true rfl] at h8;have hd : Hid (decide ((0 : Int) < 0) = false) := rfl;go_enter Tryz.func146, Tryz.ntmps146;go_wp2_with fail;refine (splitI_any 0 hsz _).mono ?_;rintro e w1 ⟨_, rfl, rfl, j, rfl⟩;rw [hd.out, hD.out];go_wp2_with fail;go_ret;exact ⟨_, rfl, rfl, j, rfl⟩
 ·have hd : Hid (decide (n < 0) = false) := decide_eq_false (by omega)
  rw [decide_eq_false (by omega)] at h8;have hs : Hid (BS (decDigits n.natAbs) = IS n) := by unfold Hid; rw [hD.out]; congr 1; omega
  have HR : Hid ((⟨#[45]⟩ : ByteArray) ++ IS n = IS (-n)) := by
   unfold Hid;apply ba_ext; rw [ba_append, IS_list, IS_list, <- itoa_cons_neg h]; rfl
  go_enter Tryz.func146, Tryz.ntmps146;go_wp2_with fail;refine (splitI_any n hsz _).mono ?_;rintro e w1 ⟨_, rfl, rfl, j, rfl⟩;rw [hd.out, hs.out];go_wp2_with fail;go_ret;exact ⟨_, rfl, congrArg Value.string HR.out, j, rfl⟩
theorem absR_any (n : Int) (hsz : (IS n).size <= 100000) (w : World) :
 Calls Tryz.prog 185 #[.string (IS n)] w (Drawn (fun v => v = .string (IS (n.natAbs : Int))) w) := by
 have hD : Hid (BS (decDigits n.natAbs) = IS (n.natAbs : Int)) := by unfold Hid IS; rw [itoa_nat]; rfl
 go_enter Tryz.func185, Tryz.ntmps185;go_wp2_with fail;refine (splitI_any n hsz _).mono ?_;rintro e w1 ⟨_, rfl, rfl, j, rfl⟩;rw [hD.out];go_wp2_with fail;go_ret;exact ⟨_, rfl, rfl, j, rfl⟩
theorem dec_lim {n : Nat} {k : Nat} (hk : 0 < k) (h : (decDigits n).length <= k) : n < 10 ^ k := (len_decDigits_le n k hk).1 h
theorem tup2i {a b : Int} {s t : Bool} (h1 : a = b) (h2 : s = t) : Value.tuple #[.int .i64 a, .bool s] = Value.tuple #[.int .i64 b, .bool t] := by rw [h1, h2]
theorem smallR_any (n : Int) (hl : (decDigits n.natAbs).length <= 18) (w : World) :
 Calls Tryz.prog 219 #[.string (IS n)] w (Drawn (fun v => v = .tuple #[.int .i64 n, .bool true]) w) := by
 have hsz : (IS n).size <= 100000 := by
  have := itoa_len n;rw [IS_size]; rw [decDigits_length] at hl; split at this <;> omega
 have hlim : n.natAbs < 1000000000000000000 := dec_lim (k := 18) (by decide) hl;obtain ⟨l, hlE⟩ : ∃ l, l = decDigits n.natAbs := ⟨_, rfl⟩;obtain ⟨S, hS⟩ : ∃ S, S = BS (decDigits n.natAbs) := ⟨_, rfl⟩;have hSl : S.data.toList = l := by rw [hS, BS_list, hlE]
 have hSs : S.size = l.length := by rw [hS, BS_size, hlE]
 have hdig : ∀ c ∈ S.data.toList, isDig c := by rw [hSl, hlE]; exact decDigits_dig _
 have hval : dsl S 0 S.size = n.natAbs := by
  unfold dsl;rw [List.drop_zero, List.take_of_length_le (by rw [Array.length_toList]; exact Nat.le_refl _), hSl, hlE, dval_decDigits]
 have hS18 : S.size <= 18 := by rw [hSs, hlE]; exact hl
 have hbound : Hid (∀ j, j <= 17 -> dsl S 0 j < 100000000000000000) := by
  intro j hj;unfold dsl;rw [List.drop_zero];refine Nat.lt_of_lt_of_le (dval_lt _ fun c hc => hdig c (List.mem_of_mem_take hc)) ?_;show 10 ^ _ <= 10 ^ 17;refine Nat.pow_le_pow_right (by decide) ?_;rw [List.length_take]; omega
 have HDIG := Lib.hid hdig;have HVAL := Lib.hid hval;have HS := Lib.hid hS;clear hdig hval hS hSl hSs hlE hl;obtain ⟨neg, hneg⟩ : ∃ neg, neg = decide (n < 0) := ⟨_, rfl⟩;have HNEG := Lib.hid hneg;clear hneg;go_enter Tryz.func219, Tryz.ntmps219;go_wp2_with fail;refine (splitI_any n hsz _).mono ?_;rintro e w1 ⟨_, rfl, rfl, j0, rfl⟩;rw [<- HS.out, <- HNEG.out];go_wp2_with fail;go_loop [6, 7] (fun t6 t7 => ∃ (k : Nat) (nz : Int), k <= S.size /\ t7 = .int .i64 k /\ t6 = .int .i64 nz /\ Hid (nz = -((dsl S 0 k : Nat) : Int)) /\ -1000000000000000000 < nz /\ nz <= 0) (fun _ t7 => S.size - (RowKit.intOf t7).toNat)
 case atStart => exact ⟨0, 0, Nat.zero_le _, rfl, rfl, by unfold Hid; rw [dsl_self]; rfl, by omega, by omega⟩
 case round =>
  obtain ⟨k, nz, hk, rfl, rfl, HN, hn1, hn2⟩ := hrel;rcases Nat.lt_or_ge k S.size with hlt | hge
  ·have hdg := dig_at S HDIG.out k hlt
   have hst : Hid (dsl S 0 (k + 1) = 10 * dsl S 0 k + (S[k].toNat - 48)) := dsl_step S 0 k hlt (Nat.zero_le _);obtain ⟨ck, hck⟩ : ∃ ck : Nat, S[k].toNat = ck := ⟨_, rfl⟩;have HCK := Lib.hid hck;rw [hck] at hdg;have hnb : -100000000000000000 < nz := by
    have := hbound.out k (by omega);rw [HN.out]; omega
   have hx : Hid (10 * nz - ((ck : Int) - 48) = -((dsl S 0 (k + 1) : Nat) : Int)) := by
    unfold Hid; rw [hst.out, HN.out, HCK.out]; omega
   have hx1 : -1000000000000000000 < 10 * nz - ((ck : Int) - 48) /\ 10 * nz - ((ck : Int) - 48) <= 0 := by omega
   have td : decide (nz < (-9223372036854775808 + ((ck : Int) - 48)).tdiv 10) = false := by
    have : (-9223372036854775808 + ((ck : Int) - 48)).tdiv 10 <= -900000000000000000 := by
     obtain ⟨y, hy, hy1⟩ : ∃ y : Int, -9223372036854775808 + ((ck : Int) - 48) = -y /\ 9200000000000000000 <= y := ⟨9223372036854775808 - ((ck : Int) - 48), by omega, by omega⟩;rw [hy, Int.neg_tdiv, Int.tdiv_eq_ediv_of_nonneg (by omega)];omega
    simp; omega
   clear hst;go_wp2_with fail
   go_round
   case rel => exact ⟨k + 1, _, by omega, by go_num, rfl, hx, hx1.1, hx1.2⟩
   case measure => simp [RowKit.intOf]; omega
  ·have hv : Hid (nz = -((n.natAbs : Nat) : Int)) := by
    have : k = S.size := by omega
    unfold Hid; rw [HN.out, this, HVAL.out]
   have hmin : (nz == -9223372036854775808) = false := by rw [beq_eq_false_iff_ne]; omega
   cases neg
   ·have hr : Hid (-nz = n) := by
     have := of_decide_eq_false HNEG.out.symm;unfold Hid; rw [hv.out]; omega
    go_wp2_with fail;go_ret2;exact ⟨_, rfl, tup2i hr.out rfl, j0, rfl⟩
   ·have hr : Hid (nz = n) := by
     have := of_decide_eq_true HNEG.out.symm;unfold Hid; rw [hv.out]; omega
    go_wp2_with fail;go_ret2;exact ⟨_, rfl, tup2i hr.out rfl, j0, rfl⟩
theorem briefR_any (n : Int) (hsz : (IS n).size <= 100000) (w : World) :
 Calls Tryz.prog 186 #[.string (IS n)] w (Drawn (fun v => ∃ x one, v = .tuple #[.int .i64 x, .bool one] /\ (one = true -> x = n /\ -100000000000000000 < n /\ n < 100000000000000000)) w) := by
 obtain ⟨S, hS⟩ : ∃ S, S = BS (decDigits n.natAbs) := ⟨_, rfl⟩;have hSs : S.size = (decDigits n.natAbs).length := by rw [hS, BS_size]
 have HSS := Lib.hid hSs;have HS := Lib.hid hS;have hS5 : S.size <= 100000 := by
  have := itoa_len n;rw [IS_size] at hsz;rw [hSs, decDigits_length]; split at this <;> omega
 clear hS hSs;rcases Nat.lt_or_ge 17 S.size with h | h
 ·go_enter Tryz.func186, Tryz.ntmps186
  go_wp2_with fail;refine (splitI_any n hsz _).mono ?_;rintro e w1 ⟨_, rfl, rfl, j0, rfl⟩;rw [<- HS.out];go_wp2_with fail;go_ret2;exact ⟨_, rfl, ⟨_, _, rfl, fun h => by cases h⟩, j0, rfl⟩
 ·have hl : (decDigits n.natAbs).length <= 18 := by rw [<- HSS.out]; omega
  have hlim : n.natAbs < 100000000000000000 := dec_lim (k := 17) (by decide) (by rw [<- HSS.out]; exact h);have HL := Lib.hid hl;clear hl;go_enter Tryz.func186, Tryz.ntmps186;go_wp2_with fail;refine (splitI_any n hsz _).mono ?_;rintro e w1 ⟨_, rfl, rfl, j0, rfl⟩;rw [<- HS.out];go_wp2_with fail;refine (smallR_any n HL.out _).mono ?_;rintro e w2 ⟨_, rfl, rfl, j1, rfl⟩;go_wp2_with fail;go_ret2;exact ⟨_, rfl, ⟨_, _, rfl, fun _ => ⟨rfl, by omega, by omega⟩⟩, _, rfl⟩
theorem lm4_lenk {n : Int} {k : Nat} (hk : 0 < k) (h : (IS n).size <= k) : (lm B4 n.natAbs).length <= k := by
 rw [IS_size] at h;have h1 := natAbs_lt_of_len hk h;refine lm_len_le B4 _ _ two_le_B4 (Nat.lt_of_lt_of_le h1 ?_);exact Nat.pow_le_pow_left (by decide) _
theorem lm4_len {n : Int} (h : (IS n).size <= 100000) : (lm B4 n.natAbs).length <= 100000 := lm4_lenk (by decide) h
theorem dec_size {n : Int} (h : (IS n).size <= 100000) : (BS (decDigits n.natAbs)).size <= 100000 := by
 have := itoa_len n;rw [IS_size] at h;rw [BS_size, decDigits_length]; split at this <;> omega
theorem takeI_any (k : Nat) (hs : (BS (decDigits k)).size <= 3000000) (w : World) :
 Calls Tryz.prog 188 #[.string (BS (decDigits k))] w (Ret (fun v w' => Rd .i64 w' v (lm B4 k)) w) := by
 have h := take4_any w (BS (decDigits k)) (by rw [BS_list]; exact decDigits_dig k) hs;rw [BS_list, dval_decDigits] at h;exact h.mono fun _ _ ⟨v, he, hv, hb⟩ => ⟨v, he, hv.1, hb⟩
theorem madeI_any (w : World) (m : Bool) (v : Value) (n : Nat) (h : Rd .i64 w v (lm B4 n)) (hlen : (lm B4 n).length <= 3000000) (hg : Good w) :
 Calls Tryz.prog 190 #[.bool m, v] w (Ret (fun r _ => r = .string (IS (sgn m n))) w) := by
 have h := made_any w m v (lm B4 n) (lm_lt B4 n two_le_B4) h hlen hg;rwa [lval_lm B4 n two_le_B4] at h
theorem lm4_add_len {a b n : Nat} (ha : (lm B4 a).length <= n) (hb : (lm B4 b).length <= n) : (lm B4 (a + b)).length <= n + 1 := by
 refine lm_len_le B4 _ _ two_le_B4 ?_;have h1 := Nat.lt_of_lt_of_le (lm_len_lt B4 a two_le_B4) (Nat.pow_le_pow_right (show 0 < B4 by decide) ha);have h2 := Nat.lt_of_lt_of_le (lm_len_lt B4 b two_le_B4) (Nat.pow_le_pow_right (show 0 < B4 by decide) hb);have h3 : 2 * B4 ^ n <= B4 * B4 ^ n := Nat.mul_le_mul_right _ (by decide);rw [Nat.pow_succ, Nat.mul_comm];omega
theorem lm4_mono_len {a b n : Nat} (h : a <= b) (hb : (lm B4 b).length <= n) : (lm B4 a).length <= n :=
 Nat.le_trans (lm_len_le B4 _ _ two_le_B4 (Nat.lt_of_le_of_lt h (lm_len_lt B4 b two_le_B4))) hb
theorem tmod_lim {x y : Int} (hy : y ≠ 0) : (x.tmod y).natAbs < y.natAbs := by rw [tmod_natAbs']; exact Nat.mod_lt _ (by omega)
 where tmod_natAbs' : (x.tmod y).natAbs = x.natAbs % y.natAbs := Int.natAbs_tmod ..
theorem tdm_pos {x y : Int} (hy : y ≠ 0) (h : 0 <= x.tmod y) : x.tdiv y = x / y /\ x.tmod y = x % y := by
 have h1 := tmod_lim (x := x) hy;have h2 := Int.mul_tdiv_add_tmod x y;rcases Int.lt_or_le 0 y with hp | hn
 ·have := (Int.ediv_emod_unique (a := x) (b := y) (r := x.tmod y) (q := x.tdiv y) hp).2 ⟨by omega, h, by omega⟩
  exact ⟨this.1.symm, this.2.symm⟩
 ·have hp : 0 < -y := by omega
  have := (Int.ediv_emod_unique (a := x) (b := -y) (r := x.tmod y) (q := -(x.tdiv y)) hp).2 ⟨by rw [Int.neg_mul_neg]; omega, h, by omega⟩;rw [Int.ediv_neg, Int.emod_neg] at this;exact ⟨by omega, this.2.symm⟩
theorem tdm_neg {x y : Int} (hy : y ≠ 0) (h : x.tmod y < 0) : (x - (x.tmod y + max y (-y))).tdiv y = x / y /\ x.tmod y + max y (-y) = x % y := by
 have h1 := tmod_lim (x := x) hy;have h2 := Int.mul_tdiv_add_tmod x y;rcases Int.lt_or_le 0 y with hp | hn
 ·have e : max y (-y) = y := by omega
  rw [e];have := (Int.ediv_emod_unique (a := x) (b := y) (r := x.tmod y + y) (q := x.tdiv y - 1) hp).2 ⟨by rw [Int.mul_sub]; omega, by omega, by omega⟩;refine ⟨?_, this.2.symm⟩;rw [show x - (x.tmod y + y) = y * (x.tdiv y - 1) by rw [Int.mul_sub]; omega, Int.mul_tdiv_cancel_left _ hy];exact this.1.symm
 ·have hp : 0 < -y := by omega
  have e : max y (-y) = -y := by omega
  rw [e];have := (Int.ediv_emod_unique (a := x) (b := -y) (r := x.tmod y + -y) (q := -(x.tdiv y) - 1) hp).2 ⟨by rw [Int.mul_sub, Int.neg_mul_neg]; omega, by omega, by omega⟩;rw [Int.ediv_neg, Int.emod_neg] at this;refine ⟨?_, this.2.symm⟩;rw [show x - (x.tmod y + -y) = y * (x.tdiv y + 1) by rw [Int.mul_add]; omega, Int.mul_tdiv_cancel_left _ hy];omega
theorem divmodR_any (a b : Int) (hsa : (IS a).size <= 100000) (hsb : (IS b).size <= 100000) (hb0 : b ≠ 0) (w : World) (hg : Good w) :
 Calls Tryz.prog 148 #[.string (IS a), .string (IS b)] w (Ret (fun v _ => v = .tuple #[.string (IS (a / b)), .string (IS (a % b))]) w) := by
 have hla := lm4_len hsa;have hlb := lm4_len hsb;have hda := dec_size hsa;have hdb := dec_size hsb;have HB0 := Lib.hid hb0;clear hb0;go_enter Tryz.func148, Tryz.ntmps148;go_wp2_with fail;refine ((briefR_any a hsa _).mono fun _ _ h => h.ret).mono ?_;rintro e w1 ⟨_, rfl, ⟨x, one, rfl, hx⟩, hb1⟩;go_wp2_with fail;refine ((briefR_any b hsb _).mono fun _ _ h => h.ret).mono ?_;rintro e w2 ⟨_, rfl, ⟨y, two, rfl, hy⟩, hb2⟩;have hb3 : Below w.heap.size w w2 := hb1.trans (hb2.mono hb1.size);clear hb1 hb2;rcases (by cases one <;> cases two <;> simp : (one = true /\ two = true) \/ (one = false) \/ (one = true /\ two = false)) with ⟨h1, h2⟩ | h1 | ⟨h1, h2⟩
 ·obtain ⟨rfl, k1⟩ := hx h1
  obtain ⟨rfl, k2⟩ := hy h2;subst h1;subst h2;have hy0 : ¬ y = 0 := HB0.out;have hyz : (y == 0) = false := by simpa using hy0
  have q1 := tdiv_lim (y := y) k1;have m1 := tmod_lim (x := x) HB0.out;have m2 : -100000000000000000 < x.tmod y /\ x.tmod y < 100000000000000000 := by omega
  rcases Int.lt_or_le (x.tmod y) 0 with hneg | hnn
  ·have HF := Lib.hid (tdm_neg HB0.out hneg)
   have r1 : 0 <= x.tmod y + max y (-y) /\ x.tmod y + max y (-y) < 100000000000000000 := by omega
   have q2 : -200000000000000000 < (x - (x.tmod y + max y (-y))).tdiv y /\ (x - (x.tmod y + max y (-y))).tdiv y < 200000000000000000 := tdiv_lim (by omega);have tn : decide (x.tmod y < 0) = true := decide_eq_true hneg;clear m1;go_wp2_with fail;go_quiet (fail);go_wp2_with fail;have hbN : Below w.heap.size w (w2.drewN nq) := hb3.trans ((below_drewN w2 nq).mono hb3.size);have q9 : -9223372036854775808 <= x / y /\ x / y <= 9223372036854775807 := by rw [<- HF.out.1]; omega
   have r9 : -9223372036854775808 <= x % y /\ x % y <= 9223372036854775807 := by rw [<- HF.out.2]; omega
   rw [HF.out.1];refine (ofR_any (x / y) q9.1 q9.2 _ (hg.below hbN)).mono ?_;rintro e w3 ⟨_, rfl, rfl, hb4⟩;have hbM := hbN.trans (hb4.mono hbN.size);go_wp2_with fail;rw [HF.out.2];refine (ofR_any (x % y) r9.1 r9.2 _ (hg.below hbM)).mono ?_;rintro e w4 ⟨_, rfl, rfl, hb5⟩;go_wp2_with fail;go_ret2;exact ⟨_, rfl, rfl, hbM.trans (hb5.mono hbM.size)⟩
  ·have HF := Lib.hid (tdm_pos HB0.out hnn)
   have tn : decide (x.tmod y < 0) = false := decide_eq_false (by omega);clear m1;go_wp2_with fail;go_quiet (fail);go_wp2_with fail;have hbN : Below w.heap.size w (w2.drewN nq) := hb3.trans ((below_drewN w2 nq).mono hb3.size);have q9 : -9223372036854775808 <= x / y /\ x / y <= 9223372036854775807 := by rw [<- HF.out.1]; omega
   have r9 : -9223372036854775808 <= x % y /\ x % y <= 9223372036854775807 := by rw [<- HF.out.2]; omega
   rw [HF.out.1];refine (ofR_any (x / y) q9.1 q9.2 _ (hg.below hbN)).mono ?_;rintro e w3 ⟨_, rfl, rfl, hb4⟩;have hbM := hbN.trans (hb4.mono hbN.size);go_wp2_with fail;rw [HF.out.2];refine (ofR_any (x % y) r9.1 r9.2 _ (hg.below hbM)).mono ?_;rintro e w4 ⟨_, rfl, rfl, hb5⟩;go_wp2_with fail;go_ret2;exact ⟨_, rfl, rfl, hbM.trans (hb5.mono hbM.size)⟩
 case' inr.inl =>
  subst h1
 case' inr.inr =>
  subst h1;subst h2
 all_goals
  clear hx hy;obtain ⟨ma, hma⟩ : ∃ ma, ma = decide (a < 0) := ⟨_, rfl⟩;obtain ⟨mb, hmb⟩ : ∃ mb, mb = decide (b < 0) := ⟨_, rfl⟩;have HMA := Lib.hid hma;have HMB := Lib.hid hmb;have HBN : Hid (0 < b.natAbs) := by have := HB0.out; unfold Hid; omega
  have HEQ : Hid (∀ d m : Nat, (d = if ma = true /\ 0 < a.natAbs % b.natAbs then a.natAbs / b.natAbs + 1 else a.natAbs / b.natAbs) -> (m = if ma = true /\ 0 < a.natAbs % b.natAbs then b.natAbs - a.natAbs % b.natAbs else a.natAbs % b.natAbs) ->
   (if (ma != mb) then -(d : Int) else (d : Int)) = a / b /\ (m : Int) = a % b) := fun d m h3 h4 => divmod_eq HB0.out hma hmb h3 h4
  have hltm : a.natAbs % b.natAbs < b.natAbs := Nat.mod_lt _ HBN.out;clear hma hmb;go_wp2_with fail;refine ((splitI_any a hsa _).mono fun _ _ h => h.ret).mono ?_;rintro e w3 ⟨_, rfl, rfl, hb4⟩;have hb5 := hb3.trans (hb4.mono hb3.size);clear hb3 hb4;rw [<- HMA.out];go_wp2_with fail;refine ((splitI_any b hsb _).mono fun _ _ h => h.ret).mono ?_;rintro e w4 ⟨_, rfl, rfl, hb4⟩;have hb6 := hb5.trans (hb4.mono hb5.size);clear hb5 hb4;rw [<- HMB.out];go_wp2_with fail;refine (takeI_any a.natAbs (by omega) _).mono ?_;rintro e w5 ⟨va, rfl, hra, hb4⟩;have hb7 := hb6.trans (hb4.mono hb6.size);clear hb6 hb4;obtain ⟨pa, ca, rfl, hca, hma2, hra'⟩ := hra.open;clear hra';go_wp2_with fail;refine (takeI_any b.natAbs (by omega) _).mono ?_;rintro e w6 ⟨vb, rfl, hrb, hb4⟩;have hb8 := hb7.trans (hb4.mono hb7.size);obtain ⟨pb, cb, rfl, hcb, hmb2, hrb'⟩ := hrb.open;have HRA := Lib.hid (RdC.below hra hb4);have HRB := Lib.hid hrb;clear hb7 hb4 hra hrb hrb';go_wp2_with fail;refine (parts_any _ _ _ a.natAbs b.natAbs HRA.out HRB.out HBN.out (by omega) (by omega)).mono ?_;rintro e w7 ⟨_, rfl, ⟨vq, vr, rfl, hq, hr⟩, hb9⟩;have hbW := hb8.trans (hb9.mono hb8.size);generalize hrr : a.natAbs % b.natAbs = r at *;generalize hqq : a.natAbs / b.natAbs = q at *;have hlq : (lm B4 q).length <= 100000 := by
   rw [<- hqq]; exact lm4_mono_len (Nat.div_le_self _ _) hla
  have hlr : (lm B4 r).length <= 100000 := lm4_mono_len (Nat.le_of_lt hltm) hlb;have HRR := Lib.hid hrr;have HQQ := Lib.hid hqq;obtain ⟨pq, cq, rfl, hcq, hmq, hq'⟩ := hq.open;obtain ⟨pr, cr, rfl, hcr, hmr, hr'⟩ := hr.open;have HQ := Lib.hid hq;have HR := Lib.hid hr;clear hq hr hq' hr' hb8 hb9 hrr hqq HRA HRB;have hgW := hg.below hbW;obtain ⟨mm, hmm⟩ : ∃ mm, mm = (ma != mb) := ⟨_, rfl⟩;by_cases hneg : ma = true /\ 0 < r
  ·obtain ⟨rfl, hr0⟩ := hneg
   have hl0 : 0 < (lm B4 r).length := List.length_pos_iff.2 (lm_ne_nil B4 r two_le_B4 hr0);have HF : Hid (sgn mm (q + 1) = a / b /\ ((b.natAbs - r : Nat) : Int) = a % b) := by
    rw [hmm]; exact HEQ.out (q + 1) (b.natAbs - r) (by simp [hr0]) (by simp [hr0])
   have HM : Hid (mm = !mb) := by unfold Hid; rw [hmm]; cases mb <;> rfl
   have hone : Rd .i64 (w7.alloc (.cells #[.int .i64 1] 3)) (.slice (some ⟨w7.heap.size, 0, none⟩) 1 1) (lm B4 1) := by
    have e : lm B4 1 = [1] := by
     rw [lm_pos B4 1 two_le_B4 (by decide), show 1 / B4 = 0 from rfl, lm_zero]; rfl
    rw [e];refine ⟨_, _, rfl, Nat.le_refl _, by unfold maxLen; omega, rfl, fun _ => ⟨w7.heap.size, 0, rfl, fun i x hx => ?_⟩⟩;cases i with
    | zero => simp at hx; rw [World.cell?_alloc_at _ _ _ _ rfl, <- hx]; rfl
    | succ i => simp at hx
   have HONE := Lib.hid hone;have l1 : (lm B4 1).length <= 1000000 := by
    have := lm_len_le B4 1 1 two_le_B4 (by decide); omega
   have hlq1 : (lm B4 (q + 1)).length <= 3000000 := by
    have := lm4_add_len hlq (show (lm B4 1).length <= 100000 by have := lm_len_le B4 1 1 two_le_B4 (by decide); omega); omega
   have hlr1 : (lm B4 (b.natAbs - r)).length <= 3000000 := by have := lm4_mono_len (Nat.sub_le b.natAbs r) hlb; omega
   have hba : Below w7.heap.size w7 (w7.alloc (.cells #[.int .i64 1] 3)) := zal _ _;have HBA := Lib.hid hba;have HLE := Lib.hid (Nat.le_of_lt hltm);clear hmm hone hba;go_wp2_with fail;refine (joined4_any _ _ _ q 1 (q + 1) 1 (RdC.below HQ.out HBA.out) HONE.out (by omega) (by omega) (by omega) l1).mono ?_;rintro e w8 ⟨v8, rfl, ⟨hv8, _⟩, hb10⟩;obtain ⟨p8, c8, rfl, hc8, hm8, hr8⟩ := hv8.open;have hb11 := HBA.out.trans (hb10.mono HBA.out.size);clear hr8 hb10;go_wp2_with fail;refine (takeI_any b.natAbs (by omega) _).mono ?_;rintro e w9 ⟨vb9, rfl, hrb9, hb12⟩;obtain ⟨p9, c9, rfl, hc9, hm9, hr9⟩ := hrb9.open;have hb13 := hb11.trans (hb12.mono hb11.size);have hv9 := RdC.below hv8 hb12;clear hr9 hb12 hb11 hv8;go_wp2_with fail;refine (joined4_any _ _ _ b.natAbs r (b.natAbs - r) (-1) hrb9 (RdC.below HR.out hb13) (by omega) (by have := HLE.out; omega) (by omega) (by omega)).mono ?_;rintro e w10 ⟨v10, rfl, ⟨hv10, _⟩, hb14⟩;obtain ⟨p10, c10, rfl, hc10, hm10, hr10⟩ := hv10.open;have hb15 := hb13.trans (hb14.mono hb13.size);have hv11 := RdC.below hv9 hb14;clear hr10 hb14 hb13 hv9;go_wp2_with fail;rw [<- HM.out];refine (madeI_any _ mm _ (q + 1) hv11 hlq1 (hgW.below hb15)).mono ?_;rintro e w11 ⟨_, rfl, rfl, hb16⟩;rw [HF.out.1];have hb17 := hb15.trans (hb16.mono hb15.size);go_wp2_with fail;refine (madeI_any _ false _ (b.natAbs - r) (RdC.below hv10 hb16) hlr1 (hgW.below hb17)).mono ?_;rintro e w12 ⟨_, rfl, rfl, hb18⟩;rw [show sgn false (b.natAbs - r) = a % b from HF.out.2];go_wp2_with fail;go_ret2;exact ⟨_, rfl, rfl, hbW.trans ((hb17.trans (hb18.mono hb17.size)).mono hbW.size)⟩
  ·have hz : ma = true -> (lm B4 r).length = 0 := fun h => by
    have : r = 0 := by
     rcases Nat.eq_zero_or_pos r with h0 | h0
     ·exact h0
     ·exact absurd ⟨h, h0⟩ hneg
    rw [this, lm_zero]; rfl
   have HF : Hid (sgn mm q = a / b /\ (r : Int) = a % b) := by
    rw [hmm]; exact HEQ.out q r (by rw [if_neg hneg]) (by rw [if_neg hneg])
   have hl6 : (lm B4 r).length <= 3000000 := by omega
   have hl7 : (lm B4 q).length <= 3000000 := by omega
   have HZ := Lib.hid hz;clear hz hneg;cases ma
   case' true =>
    have hl0 : ¬ 0 < (lm B4 r).length := by have := HZ.out rfl; omega
    have HM : Hid (mm = !mb) := by unfold Hid; rw [hmm]; cases mb <;> rfl
   case' false =>
    have HM : Hid (mm = mb) := by unfold Hid; rw [hmm]; cases mb <;> rfl
   all_goals
    clear hmm;go_wp2_with fail;rw [<- HM.out];refine (madeI_any _ mm _ q HQ.out hl7 hgW).mono ?_;rintro e w9 ⟨_, rfl, rfl, hb9⟩;rw [HF.out.1];go_wp2_with fail;refine (madeI_any _ false _ r (RdC.below HR.out hb9) hl6 (hgW.below hb9)).mono ?_;rintro e w10 ⟨_, rfl, rfl, hb10⟩;rw [show sgn false r = a % b from HF.out.2];go_wp2_with fail;go_ret2;exact ⟨_, rfl, rfl, hbW.trans ((hb9.trans (hb10.mono hb9.size)).mono hbW.size)⟩
theorem gcdR_any (a b : Int) (hsa : (IS a).size <= 100000) (hsb : (IS b).size <= 100000) (w : World) (hg : Good w) :
 Calls Tryz.prog 147 #[.string (IS a), .string (IS b)] w (Ret (fun v _ => v = .string (IS (Int.gcd a b : Nat))) w) := by
 have HSA := Lib.hid (abs_size hsa);have HSB := Lib.hid (abs_size hsb);go_enter Tryz.func147, Tryz.ntmps147;go_wp2_with fail;refine ((absR_any a hsa _).mono fun _ _ h => h.ret).mono ?_;rintro e w1 ⟨_, rfl, rfl, hb1⟩;go_wp2_with fail;refine ((absR_any b hsb _).mono fun _ _ h => h.ret).mono ?_;rintro e w2 ⟨_, rfl, rfl, hb2⟩;have hb3 := hb1.trans (hb2.mono hb1.size);clear hb1 hb2;go_wp2_with fail
 go_loopg [0, 1] b.natAbs (fun n t0 t1 wr => ∃ m : Nat, t0 = .string (IS (m : Int)) /\ t1 = .string (IS (n : Int)) /\ Hid (Nat.gcd m n = Int.gcd a b) /\ (IS (m : Int)).size <= 100000 /\ (IS (n : Int)).size <= 100000 /\ Below w.heap.size w wr)
 case atStart => exact ⟨a.natAbs, rfl, rfl, rfl, HSA.out, HSB.out, hb3⟩
 case round =>
  clear hb3;obtain ⟨m, rfl, rfl, HG, hlm, hln, hnx⟩ := hrel;have hz := IS_eq48 (gk : Int);rcases Nat.eq_zero_or_pos gk with h0 | hpos
  ·subst h0
   rw [show decide (((0 : Nat) : Int) = 0) = true from rfl] at hz;have hz' : ((IS ((0 : Nat) : Int)).toList == [48]) = true := hz;have hz2 : ((IS 0).toList == [48]) = true := hz;have HR : Hid ((m : Int) = ((Int.gcd a b : Nat) : Int)) := by
    unfold Hid; rw [<- HG.out, Nat.gcd_zero_right]
   clear hz;go_wp2_with fail;go_ret;exact ⟨_, rfl, congrArg (fun z : Int => Value.string (IS z)) HR.out, hnx⟩
  ·rw [show decide ((gk : Int) = 0) = false from decide_eq_false (by omega)] at hz
   have hz' : ((IS (gk : Int)).toList == [48]) = false := hz;have hlt : m % gk < gk := Nat.mod_lt _ hpos;have HN : Hid (Nat.gcd gk (m % gk) = Int.gcd a b) := by unfold Hid; rw [gcd_step]; exact HG.out
   have hlr : (IS ((m % gk : Nat) : Int)).size <= 100000 := nat_size_mono (Nat.le_of_lt hlt) hln (by omega);have HM : Hid ((m : Int) % (gk : Int) = ((m % gk : Nat) : Int)) := by unfold Hid; omega
   have HK : Hid ((gk : Int) ≠ 0) := by unfold Hid; omega
   have hgr := hg.below hnx;clear hz;go_wp2_with fail;refine (divmodR_any (m : Int) (gk : Int) hlm hln HK.out _ hgr).mono ?_;rintro e w6 ⟨_, rfl, rfl, hb6⟩;rw [HM.out];have hbel := hnx.trans (hb6.mono hnx.size);go_wp2_with fail
   go_roundg (m % gk)
   case measure => exact hlt
   case rel => exact ⟨gk, rfl, rfl, HN, hln, hlr, hbel⟩
theorem IS_lim9 {a : Int} (h : (IS a).size <= 9) : -1000000000 < a /\ a < 1000000000 := by
 have h2 := natAbs_lt_of_len (k := 9) (by decide) (by rw [<- IS_size]; exact h);have h3 : (10 : Nat) ^ 9 = 1000000000 := by decide
 omega
theorem small2Q_any (a b n : Int) (d : Nat) (dz : Int) (hdz : dz = (d : Int)) (hd : 0 < d) (hsa : (IS a).size <= 9) (hsb : (IS b).size <= 9)
 (hab : (b = dz /\ a = n) \/ (b = -dz /\ a = -n)) (w : World) (hg : Good w) :
 Calls Tryz.prog 144 #[.string (IS a), .string (IS b)] w (Ret (fun v _ => v = .string (RS (mkRat n d))) w) := by
 have hla := IS_lim9 hsa;have hlb := IS_lim9 hsb;have hd0 : 0 < dz := by omega
 have hn : -1000000000 < n /\ n < 1000000000 := by omega
 have hd2 : dz < 1000000000 := by omega
 have HDZ := Lib.hid hdz;clear hdz;obtain ⟨G, hG⟩ : ∃ G, G = Nat.gcd n.natAbs d := ⟨_, rfl⟩;have hGp : 0 < G := by rw [hG]; exact Nat.gcd_pos_of_pos_right _ hd
 have HG := Lib.hid hG;clear hG;obtain ⟨m0, hm0⟩ : ∃ m0 : Int, m0 = (n.natAbs : Int) := ⟨_, rfl⟩;have HM0 : Hid (m0.natAbs = n.natAbs) := by unfold Hid; omega
 have hm1 : 0 <= m0 /\ m0 < 1000000000 := by omega
 have HM1 := Lib.hid hm0;clear hm0;rcases hab with ⟨e1, e2⟩ | ⟨e1, e2⟩
 case' inl =>
  have e1 := e1.symm;have e2 := e2.symm;subst e1 e2;have t1 : decide (dz < 0) = false := by rw [decide_eq_false_iff_not]; omega
  go_enter Tryz.func144, Tryz.ntmps144;go_wp2_with fail;refine (atoi_any n (by omega) _).mono ?_;rintro e w1 ⟨_, rfl, rfl, hb1⟩;go_wp2_with fail;refine (atoi_any dz (by omega) _).mono ?_;rintro e w2 ⟨_, rfl, rfl, hb2⟩;go_upto_region 5 with fail;clear hla hlb t1 hsa hsb
 case' inr =>
  have t1 : decide (b < 0) = true := by rw [decide_eq_true_iff]; omega
  have E1 : Hid (-b = dz) := by unfold Hid; omega
  have E2 : Hid (-a = n) := by unfold Hid; omega
  clear e1 e2;go_enter Tryz.func144, Tryz.ntmps144;go_wp2_with fail;refine (atoi_any a (by omega) _).mono ?_;rintro e w1 ⟨_, rfl, rfl, hb1⟩;go_wp2_with fail;refine (atoi_any b (by omega) _).mono ?_;rintro e w2 ⟨_, rfl, rfl, hb2⟩;go_upto_region 5 with fail;rw [E1.out, E2.out];clear E1 E2 hla hlb t1 hsa hsb
 all_goals
  have hbz := hb1.trans (hb2.mono hb1.size);have hg2 := hg.below hbz;clear hb1 hb2;rcases Int.lt_or_le n 0 with hneg | hpos
  case' inl =>
   have t2 : decide (n < 0) = true := by rw [decide_eq_true_iff]; exact hneg
   have hmg : Hid (-n = m0) := by have := HM1.out; unfold Hid; omega
   go_wp2_with fail;rw [hmg.out];clear hneg t2 hmg
  case' inr =>
   have t2 : decide (n < 0) = false := by rw [decide_eq_false_iff_not]; omega
   have hmg : n = m0 := by have := HM1.out; omega
   clear HM1;subst hmg;go_wp2_with fail;clear hpos t2
  all_goals
   go_loopw [9, 10] (fun t5 t6 wr => ∃ m k : Int, t5 = .int .i64 m /\ t6 = .int .i64 k /\ Hid (Nat.gcd m.natAbs k.natAbs = G) /\ (0 <= m /\ m <= 1000000000) /\ (0 <= k /\ k <= 1000000000) /\ ∃ j, wr = w2.drewN j) (fun _ t6 _ => (RowKit.intOf t6).natAbs)
   case atStart => exact ⟨_, dz, rfl, rfl, by unfold Hid; rw [HDZ.out]; first | (rw [HM0.out, HG.out]; rfl) | (rw [HG.out]; rfl), by omega, by omega, 0, rfl⟩
   case round =>
    obtain ⟨m, k, rfl, rfl, HM, hm, hk, j, rfl⟩ := hrel;by_cases hz : k = 0
    ·subst hz
     have hab : m.natAbs = G := by have := HM.out; rwa [Int.natAbs_zero, Nat.gcd_zero_right] at this
     have hgj := hg2.drewN j;have hmG : m = (G : Int) := by omega
     obtain ⟨x, hx⟩ : ∃ x, x = n.tdiv m := ⟨_, rfl⟩;obtain ⟨y, hy⟩ : ∃ y : Int, y = dz / m := ⟨_, rfl⟩;have hyn : y = ((d / G : Nat) : Int) := by rw [hy, HDZ.out, hmG]; rfl
     have HRS := Lib.hid (RS_mkRat hd HG.out (x := x) (by rw [hx, hmG]) hyn);have hxb := tdiv_lim (y := m) (x := n) (M := 1000000001) (by omega);have hxw := hxb;rw [<- hx] at hxb;have hyb : 0 <= y /\ y <= 1000000000 := by
      rw [hyn];have h1 : d / G <= d := Nat.div_le_self _ _;have := HDZ.out;generalize d / G = z at *;omega
     have hgz0 : 1 <= m := by omega
     have hgz1 : ¬ m = 0 := by omega
     have hgzb : (m == 0) = false := by rw [beq_eq_false_iff_ne]; omega
     have HX := Lib.hid hx;have HY := Lib.hid hy;have hsx := IS_size20 (x := x) (by omega);have hsy := IS_size20 (x := y) (by omega);clear hab hGp hx hy hyn hmG;go_upto_region 10 with fail;go_quiet (fail);rw [<- HX.out, <- HY.out];have hgq := hgj.drewN nq;have hbq : Below w.heap.size w ((w2.drewN j).drewN nq) := hbz.trans (((below_drewN w2 j).trans (below_drewN (w2.drewN j) nq)).mono hbz.size);generalize (w2.drewN j).drewN nq = wq at *;by_cases hy1 : y = 1
     ·have HF := Lib.hid (HRS.out.1 hy1)
      have ty : (y == 1) = true := by rw [beq_iff_eq]; exact hy1
      clear hy1;go_wp2_with fail;refine (itoa_any x (by omega) (by omega) _ hgq).mono ?_;rintro e w3 ⟨_, rfl, rfl, hb2⟩;rw [HF.out];go_wp2_with fail;go_ret;exact ⟨_, rfl, rfl, hbq.trans (hb2.mono hbq.size)⟩
     ·have HF := Lib.hid (HRS.out.2 hy1)
      have ty : (y == 1) = false := by rw [beq_eq_false_iff_ne]; exact hy1
      clear hy1;go_wp2_with fail;refine (itoa_any x (by omega) (by omega) _ hgq).mono ?_;rintro e w3 ⟨_, rfl, rfl, hb2⟩;go_wp2_with fail;refine (itoa_any y (by omega) (by omega) _ (hgq.below hb2)).mono ?_;rintro e w4 ⟨_, rfl, rfl, hb3⟩;go_wp2_with fail;go_ret;exact ⟨_, rfl, congrArg Value.string HF.out, hbq.trans ((hb2.trans (hb3.mono hb2.size)).mono hbq.size)⟩
    ·have hz1 : (k != 0) = true := by rw [bne_iff_ne]; exact hz
     have hzb : (k == 0) = false := by rw [beq_eq_false_iff_ne]; exact hz
     have hmk : m % k = m.tmod k := (Int.tmod_eq_emod_of_nonneg hm.1).symm;have hlt : (m % k).natAbs < k.natAbs := by rw [hmk, tmod_natAbs]; exact Nat.mod_lt _ (by omega)
     have HN : Hid (Nat.gcd k.natAbs (m % k).natAbs = G) := by
      unfold Hid; rw [hmk, tmod_natAbs, gcd_step]; exact HM.out
     have hn2 : 0 <= m % k /\ m % k <= 1000000000 := by have := Int.emod_nonneg m hz; omega
     have hk1 : 1 <= k := by omega
     clear hmk;go_wp2_with fail;go_quiet (fail);go_wp2_with fail;go_roundw
     case rel => exact ⟨k, m % k, rfl, rfl, HN, hk, hn2, dr_step ⟨j, rfl⟩ _⟩
     case measure => exact hlt
theorem fractionQ_any (a b n : Int) (d : Nat) (dz : Int) (hdz : dz = (d : Int)) (hd : 0 < d) (hsa : (IS a).size <= 90000) (hsb : (IS b).size <= 90000)
 (hab : (b = dz /\ a = n) \/ (b = -dz /\ a = -n)) (w : World) (hg : Good w) :
 Calls Tryz.prog 100 #[.string (IS a), .string (IS b)] w (Ret (fun v _ => v = .string (RS (mkRat n d))) w) := by
 by_cases hq : (IS a).size <= 9 /\ (IS b).size <= 9
 ·obtain ⟨h1, h2⟩ := hq
  have HAB := Lib.hid hab;have HDZ := Lib.hid hdz;clear hab hdz;go_enter Tryz.func100, Tryz.ntmps100;go_wp2_with fail;refine (small2Q_any a b n d dz HDZ.out hd h1 h2 HAB.out _ hg).mono ?_;rintro e w1 ⟨_, rfl, rfl, hb1⟩;go_wp2_with fail;go_ret;exact ⟨_, rfl, rfl, hb1⟩
 ·obtain ⟨G, hG⟩ : ∃ G, G = Nat.gcd n.natAbs d := ⟨_, rfl⟩
  obtain ⟨hGp, hGd, hG1, hG2, hG3⟩ := gcd_fact hd hG;have hGC : Hid (((Int.gcd n dz : Nat) : Int) = (G : Int)) := by unfold Hid; rw [hG, hdz]; rfl
  obtain ⟨x, hx⟩ : ∃ x, x = n / (G : Int) := ⟨_, rfl⟩;obtain ⟨y, hy⟩ : ∃ y : Int, y = dz / (G : Int) := ⟨_, rfl⟩;have hyn : y = ((d / G : Nat) : Int) := by rw [hy, hdz]; rfl
  have HRS := Lib.hid (RS_mkRat hd hG (x := x) (by rw [hx, hG1]) hyn);have hsn : (IS n).size <= 90001 := by
   rcases hab with ⟨_, h⟩ | ⟨_, h⟩
   ·rw [<- h]; omega
   ·rw [show n = -a by omega]; exact neg_size hsa
  have hsd : (IS dz).size <= 90001 := by
   rcases hab with ⟨h, _⟩ | ⟨h, _⟩
   ·rw [<- h]; omega
   ·rw [show dz = -b by omega]; exact neg_size hsb
  have hsG : (IS (G : Int)).size <= 90001 := nat_size_mono hGd (by rw [<- hdz]; exact hsd) (by omega);have hsx : (IS x).size <= 90002 := IS_size_mono (by rw [hx]; exact hG2) hsn (by omega);have hsy : (IS y).size <= 90002 := IS_size_mono (n := dz) (by rw [hyn, hdz]; exact Nat.div_le_self d G) hsd (by omega);have hd0 : 0 < dz := by omega
  have hy9 := IS_eq49 y;obtain ⟨gz, hgz⟩ : ∃ gz : Int, gz = (G : Int) := ⟨_, rfl⟩;rw [<- hgz] at hGC hx hy hsG;have hG0 : Hid (gz ≠ 0) := by unfold Hid; omega
  have HX := Lib.hid hx;have HY := Lib.hid hy;have hqo : ¬ (IS a).size <= 9 \/ ((IS a).size <= 9 /\ ¬ (IS b).size <= 9) := by omega
  clear hG hG1 hG2 hG3 hGp hGd hyn hdz hx hy hgz hq;have hsa' : (IS a).size <= 100000 := by omega
  have hsb' : (IS b).size <= 100000 := by omega
  rcases hab with ⟨e1, e2⟩ | ⟨e1, e2⟩
  case' inl =>
   have e1 := e1.symm;have e2 := e2.symm;subst e1 e2;have hbn : ¬ dz < 0 := by omega
   rcases hqo with hq | ⟨hq, hq2⟩
   all_goals
    go_enter Tryz.func100, Tryz.ntmps100;go_wp2_with fail;refine ((signR_any dz hsb' _).mono fun _ _ h => h.ret).mono ?_;rintro e w1 ⟨_, rfl, rfl, hb1⟩;go_upto_region 5 with fail
  case' inr =>
   have hbn : b < 0 := by omega
   have E1 : Hid (-b = dz) := by unfold Hid; omega
   have E2 : Hid (-a = n) := by unfold Hid; omega
   clear e1 e2;rcases hqo with hq | ⟨hq, hq2⟩
   all_goals
    go_enter Tryz.func100, Tryz.ntmps100;go_wp2_with fail;refine ((signR_any b hsb' _).mono fun _ _ h => h.ret).mono ?_;rintro e w0 ⟨_, rfl, rfl, hb0⟩;go_wp2_with fail;refine ((negR_any a hsa' _).mono fun _ _ h => h.ret).mono ?_;rintro e w02 ⟨_, rfl, rfl, hb02⟩;rw [E2.out];go_wp2_with fail;refine ((negR_any b hsb' _).mono fun _ _ h => h.ret).mono ?_;rintro e w1 ⟨_, rfl, rfl, hb03⟩;rw [E1.out];have hb1 := hb0.trans ((hb02.trans (hb03.mono hb02.size)).mono hb0.size);clear hb0 hb02 hb03;go_upto_region 5 with fail
  all_goals
   clear hq;have hgb := hg.below hb1;go_wp2_with fail;refine (gcdR_any n dz (by omega) (by omega) _ hgb).mono ?_;rintro e w2 ⟨_, rfl, rfl, hb2⟩;rw [hGC.out];have hgb2 := hgb.below hb2;have hb3 := hb1.trans (hb2.mono hb1.size);clear hb1 hb2;go_wp2_with fail;refine (divmodR_any n gz (by omega) (by omega) hG0.out _ hgb2).mono ?_;rintro e w3 ⟨_, rfl, rfl, hb4⟩;rw [<- HX.out];have hgb3 := hgb2.below hb4;have hb5 := hb3.trans (hb4.mono hb3.size);clear hb3 hb4;go_wp2_with fail;refine (divmodR_any dz gz (by omega) (by omega) hG0.out _ hgb3).mono ?_;rintro e w4 ⟨_, rfl, rfl, hb6⟩;rw [<- HY.out];have hb7 := hb5.trans (hb6.mono hb5.size);clear hb5 hb6;by_cases hy1 : y = 1
   ·have HF := Lib.hid (HRS.out.1 hy1)
    rw [decide_eq_true hy1] at hy9;clear hy1;go_wp2_with fail;go_ret;exact ⟨_, rfl, congrArg Value.string HF.out, hb7⟩
   ·have HF := Lib.hid (HRS.out.2 hy1)
    rw [decide_eq_false hy1] at hy9;clear hy1;go_wp2_with fail;go_ret;exact ⟨_, rfl, congrArg Value.string HF.out, hb7⟩
theorem ofQ_any (a b n : Int) (d : Nat) (dz : Int) (hdz : dz = (d : Int)) (hd : 0 < d) (ha : -9223372036854775808 <= a /\ a <= 9223372036854775807) (hb : -9223372036854775808 <= b /\ b <= 9223372036854775807)
 (hab : (b = dz /\ a = n) \/ (b = -dz /\ a = -n)) (w : World) (hg : Good w) :
 Calls Tryz.prog 56 #[.int .i64 a, .int .i64 b] w (Ret (fun v _ => v = .string (RS (mkRat n d))) w) := by
 have hsa := IS_size20 (x := a) (by omega);have hsb := IS_size20 (x := b) (by omega);have HDZ := Lib.hid hdz;have HAB := Lib.hid hab;clear hdz hab;go_enter Tryz.func56, Tryz.ntmps56;go_wp2_with fail;refine (ofR_any a (by omega) (by omega) _ hg).mono ?_;rintro e w1 ⟨_, rfl, rfl, hb1⟩;have hg1 := hg.below hb1;go_wp2_with fail;refine (ofR_any b (by omega) (by omega) _ hg1).mono ?_;rintro e w2 ⟨_, rfl, rfl, hb2⟩;have hb3 := hb1.trans (hb2.mono hb1.size);clear hb1 hb2 hg1;have hg3 := hg.below hb3;go_wp2_with fail;refine (fractionQ_any a b n d dz HDZ.out hd (by omega) (by omega) HAB.out _ hg3).mono ?_;rintro e w3 ⟨_, rfl, rfl, hb4⟩;go_wp2_with fail;go_ret;exact ⟨_, rfl, rfl, hb3.trans (hb4.mono hb3.size)⟩
def heightQ (hs : List Int) (half : Bool) (i : Nat) : Rat := mkRat ((hs[i % 6]?.getD 0).tmod 20) (halfD half)
def heightsF (hs : List Int) (half : Bool) (n : Nat) : List Rat := (List.range n).map (heightQ hs half)
theorem heightsF_length (hs : List Int) (half : Bool) (n : Nat) : (heightsF hs half n).length = n := by simp [heightsF]
theorem heightsF_get (hs : List Int) (half : Bool) (n i : Nat) (h : i < n) : (heightsF hs half n)[i]? = some (heightQ hs half i) := by
 unfold heightsF;rw [List.getElem?_map, List.getElem?_range h]; rfl
theorem tmod20_bound (s : Int) : -19 <= s.tmod 20 /\ s.tmod 20 <= 19 := by
 rcases Int.le_total 0 s with h | h
 ·rw [Int.tmod_eq_emod_of_nonneg h]; omega
 ·have h1 : s.tmod 20 = -((-s).tmod 20) := by rw [Int.neg_tmod]; omega
  rw [h1, Int.tmod_eq_emod_of_nonneg (by omega)];omega
theorem make13_any (w : World) (pp : Option Addr) (n cp : Nat) (vt : Value) (v0 v1 v2 v3 v4 v5 : Int) (half : Bool) (hb : ∀ x ∈ [v0, v1, v2, v3, v4, v5], -128 <= x /\ x <= 127) (hn : n <= 6) (hg : Good w) :
 Calls Tryz.prog 18 #[.agg #[.slice pp n cp, vt], .agg #[.int .i8 v0, .int .i8 v1, .int .i8 v2, .int .i8 v3, .int .i8 v4, .int .i8 v5, .bool half]] w (Ret (fun r w' => RdQ w' r (heightsF [v0, v1, v2, v3, v4, v5] half n) /\ FreshV w.heap.size r) w) := by
 obtain ⟨i0, hi, hz0, hz1, hz2⟩ := info_parts info_str;obtain ⟨hs, hhs⟩ : ∃ hs : List Int, hs = [v0, v1, v2, v3, v4, v5] := ⟨_, rfl⟩;have HHS := Lib.hid hhs;rw [<- hhs] at hb ⊢;have HBD : Hid (∀ i, -128 <= hs[i % 6]?.getD 0 /\ hs[i % 6]?.getD 0 <= 127) := fun i => by
  cases hx : hs[i % 6]? with
  | none => simp
  | some x => exact hb x (List.mem_of_getElem? hx)
 clear hb;clear hhs;have HOF : Hid (∀ (i : Nat) (w : World), Good w -> _) := fun i w hg => ofQ_any ((hs[i % 6]?.getD 0).tmod 20) (halfD half : Int) ((hs[i % 6]?.getD 0).tmod 20) (halfD half) (halfD half : Int) rfl (by cases half <;> decide) (by have := tmod20_bound (hs[i % 6]?.getD 0); omega) (by cases half <;> decide) (.inl ⟨rfl, rfl⟩) w hg
 have HHQ : Hid (∀ i, mkRat ((hs[i % 6]?.getD 0).tmod 20) (halfD half) = heightQ hs half i) := fun i => rfl;have HG : Hid (∀ i, i < n -> (heightsF hs half n)[i]? = some (heightQ hs half i)) := fun i h => heightsF_get hs half n i h;have HGL : Hid ((heightsF hs half n).length = n) := heightsF_length _ _ _;generalize heightsF hs half n = F at *;cases half
 ·dsimp only [halfD] at HOF HHQ
  go_enter Tryz.func18, Tryz.ntmps18;go_wp2_with fail;obtain ⟨W, hW⟩ : ∃ W, W = ((w.alloc (.cells #[.slice pp n cp, vt] 37)).alloc (.cells #[.int .i8 v0, .int .i8 v1, .int .i8 v2, .int .i8 v3, .int .i8 v4, .int .i8 v5, .bool false] 28)).alloc (.cells #[] 57) := ⟨_, rfl⟩;have hB : Below w.heap.size w W := by rw [hW]; exact (((Below.refl _ _).alloc (Nat.le_refl _) _).alloc (by simp) _).alloc (by simp; omega) _
  have b2 : BoxN W w.heap.size 37 [.slice pp n cp, vt] := by
   rw [hW];have h1 := (BoxN.new w #[.slice pp n cp, vt] 37 _ rfl);exact (h1.below ((Below.refl _ _).alloc (Nat.le_refl _) _) h1.lt).below ((Below.refl _ _).alloc (Nat.le_refl _) _) (by simp; omega)
  have b3 : BoxN W (w.heap.size + 1) 28 [.int .i8 v0, .int .i8 v1, .int .i8 v2, .int .i8 v3, .int .i8 v4, .int .i8 v5, .bool false] := by
   rw [hW];have h1 := (BoxN.new (w.alloc (.cells #[.slice pp n cp, vt] 37)) #[.int .i8 v0, .int .i8 v1, .int .i8 v2, .int .i8 v3, .int .i8 v4, .int .i8 v5, .bool false] 28 (w.heap.size + 1) (by simp));exact h1.below (zal _ _) h1.lt
  have h0 : W.ownsRow (w.heap.size + 2) 57 1 (.slice (some ⟨w.heap.size + 2, 0, none⟩) 0 0) 0 ([] : List Value) := by
   rw [hW];have := World.ownsRow_lit (base := w.heap.size + 2) (e := 57) (size := 1) ((w.alloc (.cells #[.slice pp n cp, vt] 37)).alloc (.cells #[.int .i8 v0, .int .i8 v1, .int .i8 v2, .int .i8 v3, .int .i8 v4, .int .i8 v5, .bool false] 28)) #[] 0 (by simp) (by decide) rfl;simpa using this
  have hWz : W.heap.size = w.heap.size + 3 := by rw [hW]; simp
  rw [<- hW];clear hW;have HC : Hid (∀ i, i < 6 -> W.cell? ⟨w.heap.size + 1, i, none⟩ = some (.int .i8 (hs[i % 6]?.getD 0))) := fun i h6 => by
   rw [HHS.out];rcases (by omega : i = 0 \/ i = 1 \/ i = 2 \/ i = 3 \/ i = 4 \/ i = 5) with rfl | rfl | rfl | rfl | rfl | rfl
   ·exact b3.cell 0 rfl
   ·exact b3.cell 1 rfl
   ·exact b3.cell 2 rfl
   ·exact b3.cell 3 rfl
   ·exact b3.cell 4 rfl
   ·exact b3.cell 5 rfl
  have c0 := b2.cell 0 rfl;go_loopw [5, 7] (fun t5 t7 wr => ∃ (i : Nat), t7 = .int .i64 i /\ i <= n /\ wr.ownsRow (w.heap.size + 2) 57 1 t5 i ((F.take i).map fun q => Value.string (RS q)) /\ Below (w.heap.size + 2) W wr /\ w.heap.size + 2 <= wr.heap.size) (fun _ t7 _ => n - (RowKit.intOf t7).toNat)
  case atStart => exact ⟨0, rfl, Nat.zero_le _, h0, Below.refl _ _, by omega⟩
  case round =>
   obtain ⟨i, rfl, hin, hown, hbr, hzr⟩ := hrel;obtain ⟨p5, c5, rfl⟩ := ownsRow_shape hown;have x0 := zcq hbr (by show w.heap.size < w.heap.size + 2; omega) c0;have hbw : Below w.heap.size w wr := hB.trans (hbr.mono (by omega));rcases Nat.lt_or_ge i n with h | h
   ·have xi := (hbr.cell (p := ⟨w.heap.size + 1, i, none⟩) (by show w.heap.size + 1 < w.heap.size + 2; omega)).trans (HC.out i (by omega))
    have HTK := Lib.hid (take_snoc _ _ _ (HG.out i h));have HOI := Lib.hid (HOF.out i);rw [HHQ.out i] at HOI;have hbd := tmod20_bound (hs[i % 6]?.getD 0);obtain ⟨hv1, hv2⟩ := HBD.out i;generalize heightQ hs false i = q at *;generalize hs[i % 6]?.getD 0 = v at *;have hwv : IntKind.i64.wrap v = v := IntWalk.i64_in _ (by omega);have hwt : IntKind.i64.wrap (v.tmod 20) = v.tmod 20 := IntWalk.i64_in _ (by omega);have hrem : IntKind.i64.wrap ((i : Int).tmod 6) = (i : Int) := by
     rw [Int.tmod_eq_emod_of_nonneg (by omega), Int.emod_eq_of_lt (by omega) (by omega)];exact IntWalk.i64_in _ (by omega)
    have hrem2 : (i : Int).tmod 6 = (i : Int) := by rw [Int.tmod_eq_emod_of_nonneg (by omega), Int.emod_eq_of_lt (by omega) (by omega)]
    have hrem3 : (i : Int) % 6 = (i : Int) := Int.emod_eq_of_lt (by omega) (by omega);have hi6 : (i : Int) < 6 := by omega
    have hilt : (i : Int) < (n : Int) := by omega
    have hgr : Good wr := hg.below hbw;clear c0 HC;go_wp2_with fail;refine (HOI.out wr hgr).mono ?_;rintro e w2 ⟨_, rfl, rfl, hb2⟩;have hown2 := World.ownsRow.belowAll hown hb2;have hbr2 : Below (w.heap.size + 2) W w2 := hbr.trans (hb2.mono hzr);have hz2' : w.heap.size + 2 <= w2.heap.size := Nat.le_trans hzr hb2.size;clear hb2 hown hbr hgr x0 xi
    go_wp2_with (at_builtin; refine wpList_append_own _ rfl _ _ 39 rfl (w.heap.size + 2) 57 i0 (.string ⟨#[]⟩) 1 16 Tryz.underlying39 hi hz0 hz1 hz2 rfl (by decide) _ _ _ rfl (hown2.alloc _) ⟨w2.heap.size, 0, none⟩ 1 1 [.string (RS q)] rfl rfl (cell_one_str _ _ _) (one_cell_str _) (by unfold maxLen; omega) (by omega) (by simp; omega) ?_
                 intro v2 w3 hown3 hgrow3 _;have hzw3 := hgrow3.size;have hbr3 : Below (w.heap.size + 2) W w3 := (hbr2.alloc (by omega) _).grown hgrow3 (by simp; omega) (fun j hj => by have := (hown2.lt j hj).1; omega);clear hgrow3)
    go_roundw
    case rel => exact ⟨i + 1, by simp, by omega, by rw [HTK.out, List.map_append]; exact hown3, hbr3, by simp at hzw3; omega⟩
    case measure =>
     show n - ((i : Int) + 1).toNat < n - (i : Int).toNat;omega
   ·obtain rfl : i = n := by omega
    have hfr : FreshV (w.heap.size + 2) (.slice p5 i c5) := FreshV.of_owns hown;have hrd : RdQ wr (.slice p5 i c5) F := by
     have h1 : RdC 1 wr (.slice p5 i c5) i ((F.take i).map fun q => Value.string (RS q)) := RdC.of_owns hown;have hl := HGL.out;rw [List.take_of_length_le (by omega)] at h1;unfold RdQ;rw [hl];exact h1
    go_wp2_with fail;go_ret;exact ⟨_, rfl, ⟨hrd, fun a l c e => by have := hfr a l c e; omega⟩, hbw⟩
 ·dsimp only [halfD] at HOF HHQ
  go_enter Tryz.func18, Tryz.ntmps18;go_wp2_with fail;obtain ⟨W, hW⟩ : ∃ W, W = ((w.alloc (.cells #[.slice pp n cp, vt] 37)).alloc (.cells #[.int .i8 v0, .int .i8 v1, .int .i8 v2, .int .i8 v3, .int .i8 v4, .int .i8 v5, .bool true] 28)).alloc (.cells #[] 57) := ⟨_, rfl⟩;have hB : Below w.heap.size w W := by rw [hW]; exact (((Below.refl _ _).alloc (Nat.le_refl _) _).alloc (by simp) _).alloc (by simp; omega) _
  have b2 : BoxN W w.heap.size 37 [.slice pp n cp, vt] := by
   rw [hW];have h1 := (BoxN.new w #[.slice pp n cp, vt] 37 _ rfl);exact (h1.below ((Below.refl _ _).alloc (Nat.le_refl _) _) h1.lt).below ((Below.refl _ _).alloc (Nat.le_refl _) _) (by simp; omega)
  have b3 : BoxN W (w.heap.size + 1) 28 [.int .i8 v0, .int .i8 v1, .int .i8 v2, .int .i8 v3, .int .i8 v4, .int .i8 v5, .bool true] := by
   rw [hW];have h1 := (BoxN.new (w.alloc (.cells #[.slice pp n cp, vt] 37)) #[.int .i8 v0, .int .i8 v1, .int .i8 v2, .int .i8 v3, .int .i8 v4, .int .i8 v5, .bool true] 28 (w.heap.size + 1) (by simp));exact h1.below (zal _ _) h1.lt
  have h0 : W.ownsRow (w.heap.size + 2) 57 1 (.slice (some ⟨w.heap.size + 2, 0, none⟩) 0 0) 0 ([] : List Value) := by
   rw [hW];have := World.ownsRow_lit (base := w.heap.size + 2) (e := 57) (size := 1) ((w.alloc (.cells #[.slice pp n cp, vt] 37)).alloc (.cells #[.int .i8 v0, .int .i8 v1, .int .i8 v2, .int .i8 v3, .int .i8 v4, .int .i8 v5, .bool true] 28)) #[] 0 (by simp) (by decide) rfl;simpa using this
  have hWz : W.heap.size = w.heap.size + 3 := by rw [hW]; simp
  rw [<- hW];clear hW;have HC : Hid (∀ i, i < 6 -> W.cell? ⟨w.heap.size + 1, i, none⟩ = some (.int .i8 (hs[i % 6]?.getD 0))) := fun i h6 => by
   rw [HHS.out];rcases (by omega : i = 0 \/ i = 1 \/ i = 2 \/ i = 3 \/ i = 4 \/ i = 5) with rfl | rfl | rfl | rfl | rfl | rfl
   ·exact b3.cell 0 rfl
   ·exact b3.cell 1 rfl
   ·exact b3.cell 2 rfl
   ·exact b3.cell 3 rfl
   ·exact b3.cell 4 rfl
   ·exact b3.cell 5 rfl
  have c0 := b2.cell 0 rfl;go_loopw [5, 7] (fun t5 t7 wr => ∃ (i : Nat), t7 = .int .i64 i /\ i <= n /\ wr.ownsRow (w.heap.size + 2) 57 1 t5 i ((F.take i).map fun q => Value.string (RS q)) /\ Below (w.heap.size + 2) W wr /\ w.heap.size + 2 <= wr.heap.size) (fun _ t7 _ => n - (RowKit.intOf t7).toNat)
  case atStart => exact ⟨0, rfl, Nat.zero_le _, h0, Below.refl _ _, by omega⟩
  case round =>
   obtain ⟨i, rfl, hin, hown, hbr, hzr⟩ := hrel;obtain ⟨p5, c5, rfl⟩ := ownsRow_shape hown;have x0 := zcq hbr (by show w.heap.size < w.heap.size + 2; omega) c0;have hbw : Below w.heap.size w wr := hB.trans (hbr.mono (by omega));rcases Nat.lt_or_ge i n with h | h
   ·have xi := (hbr.cell (p := ⟨w.heap.size + 1, i, none⟩) (by show w.heap.size + 1 < w.heap.size + 2; omega)).trans (HC.out i (by omega))
    have HTK := Lib.hid (take_snoc _ _ _ (HG.out i h));have HOI := Lib.hid (HOF.out i);rw [HHQ.out i] at HOI;have hbd := tmod20_bound (hs[i % 6]?.getD 0);obtain ⟨hv1, hv2⟩ := HBD.out i;generalize heightQ hs true i = q at *;generalize hs[i % 6]?.getD 0 = v at *;have hwv : IntKind.i64.wrap v = v := IntWalk.i64_in _ (by omega);have hwt : IntKind.i64.wrap (v.tmod 20) = v.tmod 20 := IntWalk.i64_in _ (by omega);have hrem : IntKind.i64.wrap ((i : Int).tmod 6) = (i : Int) := by
     rw [Int.tmod_eq_emod_of_nonneg (by omega), Int.emod_eq_of_lt (by omega) (by omega)];exact IntWalk.i64_in _ (by omega)
    have hrem2 : (i : Int).tmod 6 = (i : Int) := by rw [Int.tmod_eq_emod_of_nonneg (by omega), Int.emod_eq_of_lt (by omega) (by omega)]
    have hrem3 : (i : Int) % 6 = (i : Int) := Int.emod_eq_of_lt (by omega) (by omega);have hi6 : (i : Int) < 6 := by omega
    have hilt : (i : Int) < (n : Int) := by omega
    have hgr : Good wr := hg.below hbw;clear c0 HC;go_wp2_with fail;refine (HOI.out wr hgr).mono ?_;rintro e w2 ⟨_, rfl, rfl, hb2⟩;have hown2 := World.ownsRow.belowAll hown hb2;have hbr2 : Below (w.heap.size + 2) W w2 := hbr.trans (hb2.mono hzr);have hz2' : w.heap.size + 2 <= w2.heap.size := Nat.le_trans hzr hb2.size;clear hb2 hown hbr hgr x0 xi
    go_wp2_with (at_builtin; refine wpList_append_own _ rfl _ _ 39 rfl (w.heap.size + 2) 57 i0 (.string ⟨#[]⟩) 1 16 Tryz.underlying39 hi hz0 hz1 hz2 rfl (by decide) _ _ _ rfl (hown2.alloc _) ⟨w2.heap.size, 0, none⟩ 1 1 [.string (RS q)] rfl rfl (cell_one_str _ _ _) (one_cell_str _) (by unfold maxLen; omega) (by omega) (by simp; omega) ?_
                 intro v2 w3 hown3 hgrow3 _;have hzw3 := hgrow3.size;have hbr3 : Below (w.heap.size + 2) W w3 := (hbr2.alloc (by omega) _).grown hgrow3 (by simp; omega) (fun j hj => by have := (hown2.lt j hj).1; omega);clear hgrow3)
    go_roundw
    case rel => exact ⟨i + 1, by simp, by omega, by rw [HTK.out, List.map_append]; exact hown3, hbr3, by simp at hzw3; omega⟩
    case measure =>
     show n - ((i : Int) + 1).toNat < n - (i : Int).toNat;omega
   ·obtain rfl : i = n := by omega
    have hfr : FreshV (w.heap.size + 2) (.slice p5 i c5) := FreshV.of_owns hown;have hrd : RdQ wr (.slice p5 i c5) F := by
     have h1 : RdC 1 wr (.slice p5 i c5) i ((F.take i).map fun q => Value.string (RS q)) := RdC.of_owns hown;have hl := HGL.out;rw [List.take_of_length_le (by omega)] at h1;unfold RdQ;rw [hl];exact h1
    go_wp2_with fail;go_ret;exact ⟨_, rfl, ⟨hrd, fun a l c e => by have := hfr a l c e; omega⟩, hbw⟩
theorem heights_Sz (hs : List Int) (half : Bool) (n : Nat) : ∀ q ∈ heightsF hs half n, Sz 2 q := fun q hq => by
 obtain ⟨i, _, rfl⟩ := List.mem_map.1 hq;unfold heightQ;have := tmod20_bound (hs[i % 6]?.getD 0);exact Sz.mkRat (by cases half <;> decide) (by omega) (by cases half <;> decide)
theorem sheetP_length (k : Nat) (s0 s1 : Int) (half : Bool) : (sheetP k s0 s1 half).length = (shapeP k).length := by simp [sheetP]
section
variable {A x y w V V' : Rat}
def TipP (A x y w V : Rat) : Prop := CapP A x y w V \/ NotP A x y w V
theorem TipP.sgn (h : TipP A x y w V) : ((y < 0 \/ w < 0) /\ 0 < x /\ y <= 0 /\ w <= 0) \/ ((0 < y \/ 0 < w) /\ x < 0 /\ 0 <= y /\ 0 <= w) := by
 rcases h with ⟨g0, g1, g2, g3, -⟩ | ⟨g0, g1, g2, g3, -⟩
 ·exact .inl ⟨g0, g1, g2, g3⟩
 ·exact .inr ⟨g0, g1, g2, g3⟩
end
end Go.Proofs.YtgdpoankaojklaaGreatDoor
namespace Go.Proofs.YtgdpoankaojklaaGreatDoor
open Go.RowKit Go.Lib
theorem sz_of_div {m n : Int} {k : Nat} (hn : n ≠ 0) (hm : m.natAbs < 10 ^ k) (hn2 : n.natAbs < 10 ^ k) {q : Rat} (h : q * (n : Rat) = (m : Rat)) : Sz k q := by
 have hn' : (n : Rat) ≠ 0 := by simpa using hn
 have e : q = mkRat (if 0 < n then m else -m) n.natAbs := by
  rw [Rat.mkRat_eq_div];rcases Int.lt_or_lt_of_ne hn with h0 | h0
  ·rw [if_neg (by omega)]
   have : ((n.natAbs : Nat) : Rat) = -(n : Rat) := by
    have h1 : ((n.natAbs : Nat) : Int) = -n := by omega
    have : (((n.natAbs : Nat) : Int) : Rat) = ((-n : Int) : Rat) := by rw [h1]
    rw [Rat.intCast_neg] at this;exact this
   rw [this, Rat.intCast_neg, <- h];grind
  ·rw [if_pos h0]
   have : ((n.natAbs : Nat) : Rat) = (n : Rat) := by
    have h1 : ((n.natAbs : Nat) : Int) = n := by omega
    have : (((n.natAbs : Nat) : Int) : Rat) = ((n : Int) : Rat) := by rw [h1]
    exact this
   rw [this, <- h];grind
 rw [e];exact Sz.mkRat (by omega) (by split <;> omega) hn2
theorem fr_mkRat (n : Int) (d e B : Nat) (hd : d ≠ 0) (he : d ∣ e) (hB : n.natAbs * (e / d) <= B) : Fr e B (mkRat n d) := by
 obtain ⟨c, rfl⟩ := he;have h0 : (d : Rat) ≠ 0 := by simpa using hd
 rw [Nat.mul_div_cancel_left c (by omega)] at hB;refine ⟨n * c, ?_, by rw [Int.natAbs_mul]; simpa using hB⟩;rw [Rat.mkRat_eq_div, Rat.natCast_mul, Rat.intCast_mul];have : ((c : Int) : Rat) = (c : Rat) := rfl;rw [this];grind
theorem fr_height (hs : List Int) (half : Bool) (n : Nat) : ∀ q ∈ heightsF hs half n, Fr 2 38 q := fun q hq => by
 obtain ⟨i, _, rfl⟩ := List.mem_map.1 hq;unfold heightQ;have := tmod20_bound (hs[i % 6]?.getD 0);cases half
 ·exact fr_mkRat _ 1 2 38 (by decide) (by decide) (by show ((hs[i % 6]?.getD 0).tmod 20).natAbs * 2 <= 38; omega)
 ·exact fr_mkRat _ 2 2 38 (by decide) (by decide) (by show ((hs[i % 6]?.getD 0).tmod 20).natAbs * 1 <= 38; omega)
theorem cellsT_len (T : List Tri) : (cellsT T).length = T.length * 3 := by
 unfold cellsT
 induction T with
 | nil => rfl
 | cons a T ih => rw [List.flatMap_cons, List.length_append, ih, List.length_cons]; simp; omega
theorem RdT.tail {w : World} {b o c : Nat} {T : List Tri} (h : RdT w (.slice (some ⟨b, o, none⟩) T.length c) T) (hne : T ≠ []) {p : Option Addr} (hp : p = if c = 1 then some ⟨b, o, none⟩ else some ⟨b, o + 3, none⟩) : RdT w (.slice p (T.length - 1) (c - 1)) T.tail := by
 obtain ⟨q, c', hv, h1, h2, h3, h4⟩ := h;injection hv with e1 _ e3
 subst e3;have hl := List.length_pos_iff.2 hne;refine ⟨p, c - 1, by rw [List.length_tail], by rw [List.length_tail]; omega, by omega, cellsT_len _, fun hn => ?_⟩;have hT2 : T.length ≠ 1 := fun e => by
  apply hn;have : T.tail = [] := List.length_eq_zero_iff.1 (by rw [List.length_tail, e]);rw [this]; rfl
 obtain ⟨b', off, hq, hc⟩ := h4 (fun e => by have := cellsT_len T; rw [e] at this; simp at this; omega);rw [hq] at e1;injection e1 with e1
 injection e1 with e1 e4 _
 subst e1 e4;rw [if_neg (by omega)] at hp;refine ⟨b, o + 3, hp, fun i x hx => ?_⟩;have hx2 : (cellsT T)[3 + i]? = some x := by
  cases T with
  | nil => exact absurd rfl hne
  | cons a T =>
    show ([Value.int .i64 a.1, .int .i64 a.2.1, .int .i64 a.2.2] ++ cellsT T)[3 + i]? = some x;rw [List.getElem?_append_right (by simp), show 3 + i - [Value.int .i64 a.1, .int .i64 a.2.1, .int .i64 a.2.2].length = i by simp];exact hx
 have := hc (3 + i) x hx2;rw [<- Nat.add_assoc] at this;exact this
theorem sameField_any (v u : Value) (l m : List ByteArray) (w : World) (h : RdS w v l) (h2 : RdS w u m) :
 Calls Tryz.prog 37 #[v, u] w (Ret (fun r _ => r = .bool (decide (l = m))) w) := by
 obtain ⟨p1, c1, rfl, hlc, hm1, hr1⟩ := h.open;obtain ⟨p2, c2, rfl, hlc2, hm2, hr2⟩ := h2.open;unfold maxLen at hm1 hm2;have H1 := Lib.hid hr1;have H2 := Lib.hid hr2;obtain ⟨res, hres⟩ : ∃ r, r = decide (l = m) := ⟨_, rfl⟩;rw [<- hres];have HR := Lib.hid hres;clear hr1 hr2 h h2 hres;by_cases hl : l.length = m.length
 ·have hne : ((l.length : Int) != (m.length : Int)) = false := by rw [bne_eq_false_iff_eq]; omega
  have HL := Lib.hid hl;obtain ⟨n, hn⟩ : ∃ n, n = l.length := ⟨_, rfl⟩;have HN : Hid (n = l.length) := hn;have hn2 : m.length = n := by omega
  rw [hn2] at hne hlc2 ⊢;rw [<- hn] at hne hlc ⊢;clear hl hn hn2;go_enter Tryz.func37, Tryz.ntmps37;go_wp2_with fail;go_loopw [5] (fun t5 wr => ∃ i : Nat, t5 = .int .i64 i /\ i <= n /\ Hid (∀ j (_ : j < i) (h1 : j < l.length) (h2 : j < m.length), l[j] = m[j]) /\ Below w.heap.size w wr) (fun t5 _ => n - (RowKit.intOf t5).toNat)
  case atStart => exact ⟨0, rfl, Nat.zero_le _, fun j h => absurd h (by omega), Below.refl _ _⟩
  case round =>
   obtain ⟨i, rfl, hi, HJ, hbl⟩ := hrel;rcases Nat.lt_or_ge i n with h | h
   ·have ha1 : i < l.length := by have := HN.out; omega
    have ha2 : i < m.length := by have := HN.out; have := HL.out; omega
    obtain ⟨b1, o1, rfl, hb1, hc1⟩ := H1.out (List.ne_nil_of_length_pos (by omega));obtain ⟨b2, o2, rfl, hb2, hc2⟩ := H2.out (List.ne_nil_of_length_pos (by omega));have x1 := zcq hbl hb1 (hc1 i ha1);have x2 := zcq hbl hb2 (hc2 i ha2);have HQ := Lib.hid (ba_same l[i] m[i]);have HNX : Hid (l[i] = m[i] -> ∀ j (_ : j < i + 1) (h1 : j < l.length) (h2 : j < m.length), l[j] = m[j]) := fun he j hj h1 h2 => by
     rcases Nat.lt_or_ge j i with h3 | h3
     ·exact HJ.out j h3 h1 h2
     ·obtain rfl : j = i := by omega
      exact he
    have HNO : Hid (l[i] ≠ m[i] -> false = res) := fun he => by rw [HR.out]; exact (decide_eq_false (list_not ha1 ha2 he)).symm
    generalize l[i] = q1 at *;generalize m[i] = q2 at *;have hin : (i : Int) < (n : Int) := by omega
    clear hc1 hc2 ha1 ha2;go_upto_region 6 with fail;rcases HQ.out with ⟨e, e1⟩ | ⟨e, e1, e2⟩
    ·have HE := Lib.hid (HNX.out e)
     clear e;go_quiet (fail);obtain ⟨w2, hw2⟩ : ∃ w2, w2 = wr.drewN nq := ⟨_, rfl⟩;have hb3 : Below w.heap.size w w2 := by rw [hw2]; exact hbl.trans ((below_drewN wr nq).mono hbl.size)
     rw [<- hw2];clear hw2 x1 x2;go_wp2_with fail;go_roundw
     case rel => exact ⟨i + 1, by go_num, by omega, HE, hb3⟩
     case measure => simp [RowKit.intOf]; omega
    ·have HE := Lib.hid (HNO.out e)
     clear e;go_quiet (fail);obtain ⟨w2, hw2⟩ : ∃ w2, w2 = wr.drewN nq := ⟨_, rfl⟩;have hb3 : Below w.heap.size w w2 := by rw [hw2]; exact hbl.trans ((below_drewN wr nq).mono hbl.size)
     rw [<- hw2];clear hw2 x1 x2;go_wp2_with fail;go_ret;exact ⟨_, rfl, congrArg Value.bool HE.out, hb3⟩
   ·obtain rfl : i = n := by omega
    have HE : Hid (true = res) := by unfold Hid; rw [HR.out]; exact (decide_eq_true (list_same HL.out (fun j h1 h2 => HJ.out j (by have := HN.out; omega) h1 h2))).symm
    go_wp2_with fail;go_ret;exact ⟨_, rfl, congrArg Value.bool HE.out, hbl⟩
 ·have hne : ((l.length : Int) != (m.length : Int)) = true := by rw [bne_iff_ne]; omega
  have HE : Hid (false = res) := by unfold Hid; rw [HR.out]; exact (decide_eq_false (fun e => hl (by rw [e]))).symm
  clear HR H1 H2;go_enter Tryz.func37, Tryz.ntmps37;go_wp2_with fail;go_ret;exact ⟨_, rfl, congrArg Value.bool HE.out, Below.refl _ _⟩
theorem same28_any (w : World) (vb vu vs vb' vu' vs' : Value) (b U b' U' : List ByteArray) (S S' : List (List ByteArray)) (h : DepR w vb vu vs b U S) (h' : DepR w vb' vu' vs' b' U' S') (hg : Good w) :
 Calls Tryz.prog 17 #[.agg #[vb, vu, vs], .agg #[vb', vu', vs']] w (Ret (fun r _ => r = .bool (decide (b = b' /\ U = U' /\ S = S'))) w) := by
 have HD := Lib.hid h;have HD' := Lib.hid h';obtain ⟨pb, cb, pu, cu, ps, cs, rfl, rfl, rfl⟩ := h.open;obtain ⟨pb', cb', pu', cu', ps', cs', rfl, rfl, rfl⟩ := h'.open;have H1 : Hid (∀ w', Below w.heap.size w w' -> _) := fun w' hb => sameField_any _ _ _ _ w' (HD.out.below hb).base (HD'.out.below hb).base;obtain ⟨res, hres⟩ : ∃ r, r = decide (b = b' /\ U = U' /\ S = S') := ⟨_, rfl⟩;rw [<- hres];have HR := Lib.hid hres;obtain ⟨_, _, -, hs1, hs2⟩ := h.surf.shape;obtain ⟨_, _, -, hs1', hs2'⟩ := h'.surf.shape;obtain ⟨_, _, -, hu1, hu2, -⟩ := h.unit.open;obtain ⟨_, _, -, hu1', hu2', -⟩ := h'.unit.open;unfold maxLen at hs2 hs2' hu2 hu2';clear h h' hres;by_cases hb : b = b'
 ·rw [decide_eq_true hb] at H1
  have HB := Lib.hid hb;clear hb;go_enter Tryz.func17, Tryz.ntmps17;go_wp2_with fail;obtain ⟨W, hW⟩ : ∃ W, W = (w.alloc (.cells #[.slice pb b.length cb, .slice pu U.length cu, .slice ps S.length cs] 43)).alloc (.cells #[.slice pb' b'.length cb', .slice pu' U'.length cu', .slice ps' S'.length cs'] 43) := ⟨_, rfl⟩;have hB : Below w.heap.size w W := by rw [hW]; exact zal2 _ _ _
  have c2 : BoxN W (w.heap.size + 1) 43 [.slice pb' b'.length cb', .slice pu' U'.length cu', .slice ps' S'.length cs'] := by rw [hW]; exact BoxN.new _ _ _ _ (by simp)
  have c1 : BoxN W w.heap.size 43 [.slice pb b.length cb, .slice pu U.length cu, .slice ps S.length cs] := by
   rw [hW];have h1 := (BoxN.new w #[.slice pb b.length cb, .slice pu U.length cu, .slice ps S.length cs] 43 _ rfl);exact h1.below (zal _ _) h1.lt
  have a0 := c1.cell 0 rfl;have b0 := c2.cell 0 rfl;rw [<- hW];clear hW;refine (H1.out W hB).mono ?_;rintro e w1 ⟨_, rfl, rfl, hb1⟩;have hB1 := hB.trans (hb1.mono hB.size);replace c1 := c1.below hb1 c1.lt;replace c2 := c2.below hb1 c2.lt;clear a0 b0 hb1 hB;have a1 := c1.cell 1 rfl;have b1 := c2.cell 1 rfl;have a2 := c1.cell 2 rfl;have b2 := c2.cell 2 rfl;by_cases hul : U.length = U'.length
  ·have hun : ((U.length : Int) != (U'.length : Int)) = false := by rw [bne_eq_false_iff_eq]; omega
   have HUL := Lib.hid hul;clear hul;by_cases hsl : S.length = S'.length
   ·have hsn : ((S.length : Int) != (S'.length : Int)) = false := by rw [bne_eq_false_iff_eq]; omega
    have HSL := Lib.hid hsl;clear hsl;go_wp2_with fail;go_loopw [5] (fun t5 wr => ∃ i : Nat, t5 = .int .i64 i /\ i <= U.length /\ Hid (∀ j (_ : j < i) (h1 : j < U.length) (h2 : j < U'.length), U[j] = U'[j]) /\ Below w1.heap.size w1 wr) (fun t5 _ => U.length - (RowKit.intOf t5).toNat)
    case atStart => exact ⟨0, rfl, Nat.zero_le _, fun j h => absurd h (by omega), Below.refl _ _⟩
    case round =>
     obtain ⟨i, rfl, hi, HJ, hbl⟩ := hrel;have hBr := hB1.trans (hbl.mono hB1.size);replace c1 := c1.below hbl c1.lt;replace c2 := c2.below hbl c2.lt;clear a1 b1 a2 b2;have a1 := c1.cell 1 rfl;have b1 := c2.cell 1 rfl;have a2 := c1.cell 2 rfl;have b2 := c2.cell 2 rfl;rcases Nat.lt_or_ge i U.length with h | h
     ·have ha2 : i < U'.length := by have := HUL.out; omega
      obtain ⟨k1, o1, c1', e1, hb1, -, hc1⟩ := HD.out.unit.cells (by omega);obtain ⟨k2, o2, c2', e2, hb2, -, hc2⟩ := HD'.out.unit.cells (by omega);injection e1 with e11 e12 e13
      injection e2 with e21 e22 e23
      clear e12 e22;subst e11 e13 e21 e23;have x1 := zcq hBr hb1 (hc1 i h);have x2 := zcq hBr hb2 (hc2 i ha2);have HQ := Lib.hid (ba_same U[i] U'[i]);have HNX : Hid (U[i] = U'[i] -> ∀ j (_ : j < i + 1) (h1 : j < U.length) (h2 : j < U'.length), U[j] = U'[j]) := fun he j hj h1 h2 => by
       rcases Nat.lt_or_ge j i with h3 | h3
       ·exact HJ.out j h3 h1 h2
       ·obtain rfl : j = i := by omega
        exact he
      have HNO : Hid (U[i] ≠ U'[i] -> res = false) := fun he => by rw [HR.out]; exact decide_eq_false (fun ⟨_, e, _⟩ => list_not h ha2 he e)
      generalize U[i] = q1 at *;generalize U'[i] = q2 at *;have hin : (i : Int) < (U.length : Int) := by omega
      have hin2 : (i : Int) < (U'.length : Int) := by omega
      clear hc1 hc2;go_upto_region 6 with fail;rcases HQ.out with ⟨e, e1⟩ | ⟨e, e1, e2⟩
      ·have HE := Lib.hid (HNX.out e)
       clear e;go_quiet (fail);obtain ⟨w2, hw2⟩ : ∃ w2, w2 = wr.drewN nq := ⟨_, rfl⟩;have hb3 : Below w1.heap.size w1 w2 := by rw [hw2]; exact hbl.trans ((below_drewN wr nq).mono hbl.size)
       rw [<- hw2];clear hw2 x1 x2;go_wp2_with fail;go_roundw
       case rel => exact ⟨i + 1, by go_num, by omega, HE, hb3⟩
       case measure => simp [RowKit.intOf]; omega
      ·have HE := Lib.hid (HNO.out e)
       clear e;go_quiet (fail);obtain ⟨w2, hw2⟩ : ∃ w2, w2 = wr.drewN nq := ⟨_, rfl⟩;have hb3 : Below w.heap.size w w2 := by rw [hw2]; exact hBr.trans ((below_drewN wr nq).mono hBr.size)
       rw [<- hw2];clear hw2 x1 x2;go_wp2_with fail;go_ret;exact ⟨_, rfl, congrArg Value.bool HE.out.symm, hb3⟩
     ·obtain rfl : i = U.length := by omega
      have HU : Hid (U = U') := list_same HUL.out (fun j h1 h2 => HJ.out j h1 h1 h2);obtain ⟨wa, hwa⟩ : ∃ x, x = wr := ⟨_, rfl⟩;subst hwa;clear HJ;go_wp2_with fail;go_loopw [6] (fun t6 wr => ∃ i : Nat, t6 = .int .i64 i /\ i <= S.length /\ Hid (∀ j (_ : j < i) (h1 : j < S.length) (h2 : j < S'.length), S[j] = S'[j]) /\ Below wa.heap.size wa wr) (fun t6 _ => S.length - (RowKit.intOf t6).toNat)
      case atStart => exact ⟨0, rfl, Nat.zero_le _, fun j h => absurd h (by omega), Below.refl _ _⟩
      case round =>
       obtain ⟨i, rfl, hi, HJ, hbl'⟩ := hrel;have hBr' := hBr.trans (hbl'.mono hBr.size);replace c1 := c1.below hbl' c1.lt;replace c2 := c2.below hbl' c2.lt;clear a1 b1 a2 b2;have a2 := c1.cell 2 rfl;have b2 := c2.cell 2 rfl;rcases Nat.lt_or_ge i S.length with h | h
       ·have ha2 : i < S'.length := by have := HSL.out; omega
        obtain ⟨k1, o1, c1', e1, hb1, hc1⟩ := HD.out.surf.cells (by omega);obtain ⟨k2, o2, c2', e2, hb2, hc2⟩ := HD'.out.surf.cells (by omega);injection e1 with e11 e12 e13
        injection e2 with e21 e22 e23
        clear e12 e22;subst e11 e13 e21 e23;obtain ⟨pa, ca, ka, hra⟩ := hc1 i h;obtain ⟨pd, cd, kb, hrb⟩ := hc2 i ha2;have x1 := zcq hBr' hb1 ka;have x2 := zcq hBr' hb2 kb;have HSF : Hid (∀ w', Below w.heap.size w w' -> _) := fun w' hb => sameField_any _ _ _ _ w' (RdC.below hra hb) (RdC.below hrb hb)
        have HNX : Hid (S[i] = S'[i] -> ∀ j (_ : j < i + 1) (h1 : j < S.length) (h2 : j < S'.length), S[j] = S'[j]) := fun he j hj h1 h2 => by
               rcases Nat.lt_or_ge j i with h3 | h3
               ·exact HJ.out j h3 h1 h2
               ·obtain rfl : j = i := by omega
                exact he
        have HNO : Hid (S[i] ≠ S'[i] -> res = false) := fun he => by rw [HR.out]; exact decide_eq_false (fun ⟨_, _, e⟩ => list_not h ha2 he e)
        have HQ : Hid ((decide (S[i] = S'[i]) = true -> S[i] = S'[i]) /\ (decide (S[i] = S'[i]) = false -> S[i] ≠ S'[i])) := ⟨of_decide_eq_true, of_decide_eq_false⟩;generalize S[i] = q1 at *;generalize S'[i] = q2 at *;generalize decide (q1 = q2) = bq at *;generalize q1.length = n1 at *;generalize q2.length = n2 at *;have hin : (i : Int) < (S.length : Int) := by omega
        have hin2 : (i : Int) < (S'.length : Int) := by omega
        clear hc1 hc2 hra hrb ka kb;have hk1 := Nat.lt_of_lt_of_le hb1 hBr'.size;have hk2 := Nat.lt_of_lt_of_le hb2 hBr'.size;have hk3 := c1.lt;have hk4 := c2.lt;have hgd : Good wr.drew := (hg.below hBr').drewN 1;have hbd : Below w.heap.size w wr.drew := hBr'.trans ((below_drewN wr 1).mono hBr'.size);go_upto_region 11 with fail
        go_region_held3 (fun w' => w'.cell? ⟨w.heap.size, 2, none⟩ = some (.slice (some ⟨k1, o1, none⟩) S.length cs) /\ w'.cell? ⟨w.heap.size + 1, 2, none⟩ = some (.slice (some ⟨k2, o2, none⟩) S'.length cs') /\ w'.cell? ⟨k1, o1 + i, none⟩ = some (.slice pa n1 ca) /\ w'.cell? ⟨k2, o2 + i, none⟩ = some (.slice pd n2 cd))
               (first | exact ⟨a2, b2, x1, x2⟩ | exact ⟨p_1_0, p_1_1, p_1_2, p_1_3⟩)
               (first
               | (go_at_call 37; refine (HSF.out _ hbd).mono ?_; rintro e pw1 ⟨_, rfl, rfl, pb1⟩
                  have p_1_0 := zct pb1 a2;have p_1_1 := zct pb1 b2;have p_1_2 := zct pb1 x1;have p_1_3 := zct pb1 x2;have ps1 : wr.heap.size <= pw1.heap.size := pb1.size;have pg1 := hgd.below pb1))
        have pB : Below wr.heap.size wr pw1 := zbt (below_drewN wr 1) pb1;have hbl3 : Below wa.heap.size wa pw1 := hbl'.trans (pB.mono hbl'.size);have hB3 : Below w.heap.size w pw1 := hBr'.trans (pB.mono hBr'.size);clear pB pb1 ps1 pg1 a2 b2 x1 x2;cases bq
        ·have HF := Lib.hid (HNO.out (HQ.out.2 rfl))
         clear HNO HQ HNX;go_wp2_with fail;go_ret;exact ⟨_, rfl, congrArg Value.bool HF.out.symm, hB3⟩
        ·have HF := Lib.hid (HNX.out (HQ.out.1 rfl))
         clear HNO HQ HNX;go_wp2_with fail;go_roundw
         case rel => exact ⟨i + 1, by go_num, by omega, HF, hbl3⟩
         case measure => simp [RowKit.intOf]; omega
       ·obtain rfl : i = S.length := by omega
        have HF : Hid (res = true) := by
               unfold Hid;rw [HR.out];exact decide_eq_true ⟨HB.out, HU.out, list_same HSL.out (fun j h1 h2 => HJ.out j h1 h1 h2)⟩
        go_wp2_with fail;go_ret;exact ⟨_, rfl, congrArg Value.bool HF.out.symm, hBr'⟩
   ·have hsn : ((S.length : Int) != (S'.length : Int)) = true := by rw [bne_iff_ne]; omega
    have HF : Hid (res = false) := by unfold Hid; rw [HR.out]; exact decide_eq_false (fun ⟨_, _, e⟩ => hsl (by rw [e]))
    clear HR;go_wp2_with fail;go_ret;exact ⟨_, rfl, congrArg Value.bool HF.out.symm, hB1⟩
  ·have hun : ((U.length : Int) != (U'.length : Int)) = true := by rw [bne_iff_ne]; omega
   have HF : Hid (res = false) := by unfold Hid; rw [HR.out]; exact decide_eq_false (fun ⟨_, e, _⟩ => hul (by rw [e]))
   clear HR;go_wp2_with fail;go_ret;exact ⟨_, rfl, congrArg Value.bool HF.out.symm, hB1⟩
 ·have HF : Hid (res = false) := by unfold Hid; rw [HR.out]; exact decide_eq_false (fun ⟨e, _⟩ => hb e)
  rw [decide_eq_false hb] at H1;clear HR;generalize b.length = lb at *;generalize b'.length = lb' at *;go_enter Tryz.func17, Tryz.ntmps17;go_wp2_with fail;have hB : Below w.heap.size w ((w.alloc (.cells #[.slice pb lb cb, .slice pu U.length cu, .slice ps S.length cs] 43)).alloc (.cells #[.slice pb' lb' cb', .slice pu' U'.length cu', .slice ps' S'.length cs'] 43)) := ((Below.refl _ _).alloc (Nat.le_refl _) _).alloc (by simp) _;refine (H1.out _ hB).mono ?_;rintro e w1 ⟨_, rfl, rfl, hb1⟩;have hB1 := hB.trans (hb1.mono hB.size);go_wp2_with fail;go_ret;exact ⟨_, rfl, congrArg Value.bool HF.out.symm, hB1⟩
theorem ratAbs_any (q : Rat) (hsz : (RS q).size <= 100000) (w : World) :
 Calls Tryz.prog 91 #[.string (RS q)] w (Ret (fun v _ => v = .string (RS q.abs)) w) := by
 have hs0 := RS_pos q;have hh := RS_head q hs0;obtain ⟨s, hs⟩ : ∃ s, s = RS q := ⟨_, rfl⟩;have HS := Lib.hid hs;simp only [<- hs] at hs0 hh hsz ⊢;obtain ⟨c0, hc0⟩ : ∃ c0 : Nat, s[0].toNat = c0 := ⟨_, rfl⟩;rw [hc0] at hh;clear hs;rcases Int.lt_or_le q.num 0 with h | h
 ·have t1 : ((c0 : Int) == 45) = true := by rw [beq_iff_eq]; have := hh.2 h; omega
  have HR : Hid (s.extract 1 s.size = RS q.abs) := by
   unfold Hid;have e : q.abs = -q := by unfold Rat.abs; rw [if_neg (Rat.not_le.2 (num_lt_zero_iff.1 h))]
   rw [e];apply ba_ext;rw [ba_drop, BS_list, HS.out, RS_list, RS_list, RL_neg q h]
  clear hh h;go_enter Tryz.func91, Tryz.ntmps91;go_wp2_with fail;go_ret;exact ⟨_, rfl, congrArg Value.string HR.out, Below.refl _ _⟩
 ·have t1 : ((c0 : Int) == 45) = false := by rw [beq_eq_false_iff_ne]; intro e; have := hh.1 (by omega); omega
  have HR : Hid (s = RS q.abs) := by
   unfold Hid;have e : q.abs = q := by unfold Rat.abs; rw [if_pos (Rat.num_nonneg.1 h)]
   rw [e, HS.out]
  clear hh h;go_enter Tryz.func91, Tryz.ntmps91;go_wp2_with fail;go_ret;exact ⟨_, rfl, congrArg Value.string HR.out, Below.refl _ _⟩
theorem positive_any (w : World) (v : Value) (F : List Rat) (h : RdQ w v F) (hl : F.length <= 400) (hs : ∀ q ∈ F, (RS q).size <= 100000) :
 Calls Tryz.prog 44 #[v] w (Ret (fun r w' => FldV w' w.heap.size r (F.map Rat.abs)) w) := by
 obtain ⟨i0, hi, hz0, hz1, hz2⟩ := info_parts info_str;have HC : Hid (∀ i (hi : i < F.length), ∃ b o c, v = .slice (some ⟨b, o, none⟩) F.length c /\ b < w.heap.size /\ w.cell? ⟨b, o + i, none⟩ = some (.string (RS F[i]))) := fun i hi => by
  obtain ⟨p, c, rfl, -, -, hr⟩ := h.open;obtain ⟨b, o, rfl, hb, hc⟩ := hr (List.ne_nil_of_length_pos (by omega));exact ⟨b, o, c, rfl, hb, hc i hi⟩
 have HAB : Hid (∀ i (hi : i < F.length) w, _) := fun i hi w => ratAbs_any F[i] (hs _ (List.getElem_mem hi)) w;obtain ⟨pf, cf, rfl, hc1, hc2, -⟩ := h.open;unfold maxLen at hc2;obtain ⟨n, hn⟩ : ∃ n, n = F.length := ⟨_, rfl⟩;have HN := Lib.hid hn;replace HC : Hid (∀ i (hi : i < F.length), ∃ b o c, Value.slice pf n cf = .slice (some ⟨b, o, none⟩) n c /\ b < w.heap.size /\ w.cell? ⟨b, o + i, none⟩ = some (.string (RS F[i]))) := by rw [hn]; exact HC
 rw [<- hn] at hl hc1 ⊢;clear h hs hn;go_enter Tryz.func44, Tryz.ntmps44;go_wp2_with fail;obtain ⟨W, hW⟩ : ∃ W, W = w.alloc (.cells #[] 57) := ⟨_, rfl⟩;have hB : Below w.heap.size w W := by rw [hW]; exact zal _ _
 have h0 : W.ownsRow w.heap.size 57 1 (.slice (some ⟨w.heap.size, 0, none⟩) 0 0) 0 ([] : List Value) := by
  rw [hW];have := World.ownsRow_lit (base := w.heap.size) (e := 57) (size := 1) w #[] 0 (by simp) (by decide) rfl;simpa using this
 rw [<- hW];clear hW;go_loopw [3, 4] (fun t3 t4 wr => ∃ (i : Nat), t4 = .int .i64 i /\ i <= n /\ wr.ownsRow w.heap.size 57 1 t3 i (cellsFd ((F.take i).map Rat.abs)) /\ Below w.heap.size w wr) (fun _ t4 _ => n - (RowKit.intOf t4).toNat)
 case atStart => exact ⟨0, rfl, Nat.zero_le _, h0, hB⟩
 case round =>
  obtain ⟨i, rfl, hin, hown, hbr⟩ := hrel;obtain ⟨p3, c3, rfl⟩ := ownsRow_shape hown;rcases Nat.lt_or_ge i n with h | h
  ·obtain ⟨b, o, c, e1, hb, hcell⟩ := HC.out i (by have := HN.out; omega)
   injection e1 with e11 e12 e13
   clear e12;subst e11 e13;have hlt : i < F.length := by have := HN.out; omega
   have xi := zcq hbr hb hcell;have HTK : Hid ((F.take (i + 1)).map Rat.abs = (F.take i).map Rat.abs ++ [F[i].abs]) := by
    unfold Hid;rw [List.take_succ_eq_append_getElem hlt, List.map_append];rfl
   have HA := Lib.hid (HAB.out i hlt);generalize F[i].abs = qa at *;generalize F[i] = q at *;have hilt : (i : Int) < (n : Int) := by omega
   clear hcell hlt;go_wp2_with fail;refine (HA.out wr).mono ?_;rintro e w2 ⟨_, rfl, rfl, hb2⟩;have hown2 := World.ownsRow.belowAll hown hb2;have hbr2 : Below w.heap.size w w2 := hbr.trans (hb2.mono hbr.size);have hz2' := hbr2.size;clear hb2 hown hbr xi
   go_wp2_with (at_builtin; refine wpList_append_own _ rfl _ _ 39 rfl w.heap.size 57 i0 (.string ⟨#[]⟩) 1 16 Tryz.underlying39 hi hz0 hz1 hz2 rfl (by decide) _ _ _ rfl (hown2.alloc _) ⟨w2.heap.size, 0, none⟩ 1 1 [.string (RS qa)] rfl rfl (cell_one_str _ _ _) (one_cell_str _) (by unfold maxLen; omega) (by omega) (by simp; omega) ?_
                intro v2 w3 hown3 hgrow3 _;have hbr3 : Below w.heap.size w w3 := (hbr2.alloc (by omega) _).grown hgrow3 (by simp; omega) (fun j hj => by have := (hown2.lt j hj).1; omega);clear hgrow3)
   go_roundw
   case rel => exact ⟨i + 1, by simp, by omega, by rw [HTK.out]; unfold cellsFd at hown3 ⊢; rw [List.map_append]; exact hown3, hbr3⟩
   case measure =>
    show n - ((i : Int) + 1).toNat < n - (i : Int).toNat;omega
  ·obtain rfl : i = n := by omega
   have hrd : FldV wr w.heap.size (.slice p3 i c3) (F.map Rat.abs) := by
    unfold FldV;have e : (F.map Rat.abs).length = i := by rw [List.length_map, <- HN.out]
    rw [e];have h1 := hown;rw [List.take_of_length_le (by have := HN.out; omega)] at h1;exact h1
   go_wp2_with fail;go_ret;exact ⟨_, rfl, hrd, hbr⟩
def stepF (n : Nat) (h : StepQ) : List Rat := (heightsF h.1 h.2 n).map Rat.abs
def topTo (n : Nat) (B : List Rat) (H : List StepQ) : Nat -> List Rat
 | 0 => B
 | i + 1 => List.zipWith (·+ ·) (topTo n B H i) (stepF n (H[i]?.getD ([], false)))
def surfTo (n : Nat) (B : List Rat) (H : List StepQ) (m : Nat) : List (List Rat) := (List.range m).map fun i => topTo n B H (i + 1)
theorem surfTo_next (n : Nat) (B : List Rat) (H : List StepQ) (m : Nat) : surfTo n B H (m + 1) = surfTo n B H m ++ [topTo n B H (m + 1)] := by
 unfold surfTo; rw [List.range_succ, List.map_append]; rfl
theorem surfTo_length (n : Nat) (B : List Rat) (H : List StepQ) (m : Nat) : (surfTo n B H m).length = m := by unfold surfTo; simp
def nameU (i : Nat) : ByteArray := ⟨#[117, (49 + i).toUInt8]⟩
def unitTo (m : Nat) : List ByteArray := (List.range m).map nameU
theorem unitTo_next (m : Nat) : unitTo (m + 1) = unitTo m ++ [nameU m] := by unfold unitTo; rw [List.range_succ, List.map_append]; rfl
theorem stepF_length (n : Nat) (h : StepQ) : (stepF n h).length = n := by unfold stepF; rw [List.length_map, heightsF_length]
theorem topTo_length (n : Nat) (B : List Rat) (H : List StepQ) (hB : B.length = n) : ∀ i, (topTo n B H i).length = n
 | 0 => hB
 | i + 1 => by unfold topTo; rw [List.length_zipWith, topTo_length n B H hB i, stepF_length]; simp
theorem Fr.abs {d B : Nat} {q : Rat} (h : Fr d B q) : Fr d B q.abs := by
 unfold Rat.abs;split
 ·exact h
 ·obtain ⟨n, h1, h2⟩ := h
  exact ⟨-n, by rw [Rat.neg_mul, h1]; simp, by omega⟩
theorem fr_step (n : Nat) (h : StepQ) : ∀ q ∈ stepF n h, Fr 2 38 q := fun q hq => by
 unfold stepF at hq;obtain ⟨x, hx, rfl⟩ := List.mem_map.1 hq;exact (fr_height _ _ _ x hx).abs
theorem fr_top (n : Nat) (B : List Rat) (H : List StepQ) (hB : ∀ q ∈ B, Fr 2 38 q) : ∀ i, ∀ q ∈ topTo n B H i, Fr 2 (38 * (i + 1)) q
 | 0, q, hq => hB q hq
 | i + 1, q, hq => by
   unfold topTo at hq;obtain ⟨j, hj, rfl⟩ := List.getElem_of_mem hq;rw [List.getElem_zipWith];rw [List.length_zipWith] at hj;exact ((fr_top n B H hB i _ (List.getElem_mem (by omega))).add (fr_step n _ _ (List.getElem_mem (by omega)))).mono (by omega)
theorem sz3_of_fr {q : Rat} (h : Fr 2 200 q) : Sz 3 q := by
 obtain ⟨n, h1, h2⟩ := h;exact sz_of_div (n := 2) (m := n) (by decide) (by omega) (by decide) (by rw [<- h1]; rfl)
theorem owns_one28 (w : World) (base t : Nat) (v : Value) (hb : base <= w.heap.size) : (w.alloc (.cells #[v] t)).ownsRow base t 1 (.slice (some ⟨w.heap.size, 0, none⟩) 1 1) 1 [v] := by
 refine ⟨by simp, .inr ⟨w.heap.size, 1, #[v], rfl, hb, ?_, Nat.le_refl _, by unfold maxLen; omega, by simp, by simp⟩⟩;exact BoxN.new w #[v] t w.heap.size rfl
theorem RdC.set5m {sz : Nat} {w : World} {b1 b2 t1 t2 n : Nat} {v : Value} {cs : List Value} (h1 : BoxN w b1 t1 [.slice none 0 0, .slice none 0 0]) (h2 : BoxN w b2 t2 [.slice none 0 0, .slice none 0 0, .slice none 0 0]) (hne : b2 ≠ b1) (h : RdC sz w v n cs) (hcs : ∀ y ∈ cs, y ≠ .slice none 0 0) (x0 x1 y0 y1 y2 : Value) :
 RdC sz (((((w.setCell ⟨b1, 0, none⟩ x0).setCell ⟨b1, 1, none⟩ x1).setCell ⟨b2, 0, none⟩ y0).setCell ⟨b2, 1, none⟩ y1).setCell ⟨b2, 2, none⟩ y2).drew v n cs := by
 have a1 := RdC.set_other h (h1.cell 0 rfl) hcs (x := x0);have k1 := h1.set 0 x0;have a2 := RdC.set_other a1 (k1.cell 1 rfl) hcs (x := x1);have j2 := boxK_far28 (i := 1) (v := x1) (boxK_far28 (i := 0) (v := x0) h2 hne) hne;have a3 := RdC.set_other a2 (j2.cell 0 rfl) hcs (x := y0);have j3 := j2.set 0 y0;have a4 := RdC.set_other a3 (j3.cell 1 rfl) hcs (x := y1);have j4 := j3.set 1 y1;have a5 := RdC.set_other a4 (j4.cell 2 rfl) hcs (x := y2);exact a5.drewN 1
theorem make28_any (w : World) (kz s0 s1 : Int) (half : Bool) (k : Nat) (hk : kz.tmod 8 = (k : Int)) (hk0 : 0 <= kz) (hk1 : kz <= 255) (hs0 : -128 <= s0 /\ s0 <= 127) (hs1 : -128 <= s1 /\ s1 <= 127) (a0 a1 a2 a3 a4 a5 : Int) (ah : Bool) (ha : ∀ x ∈ [a0, a1, a2, a3, a4, a5], -128 <= x /\ x <= 127) (vh : Value) (H : List StepQ) (hH : RdSt w vh H) (hH3 : H.length <= 3) (P : List PtQ) (hP : P = sheetP k s0 s1 half) (B : List Rat) (hB : B = heightsF [a0, a1, a2, a3, a4, a5] ah P.length) (hg : Good w) :
 Calls Tryz.prog 15 #[.agg #[.int .u8 kz, .int .i8 s0, .int .i8 s1, .bool half, .int .i8 a0, .int .i8 a1, .int .i8 a2, .int .i8 a3, .int .i8 a4, .int .i8 a5, .bool ah, vh]] w (Ret (fun r w' => ∃ vp vt vb vu vs, r = .tuple #[.agg #[vp, vt], .agg #[vb, vu, vs]] /\ RdP w' vp (strP P) /\ RdT w' vt (shapeT k) /\ RdQ w' vb B /\ RdS w' vu (unitTo (H.length + 1)) /\ RdF w' vs (surfTo P.length B H H.length)) w) := by
 have hP6 : P.length <= 6 := by rw [hP, sheetP_length]; exact shapeP_len k
 have HMK : Hid (∀ w, Good w -> Calls Tryz.prog 51 #[.agg #[.int .u8 kz, .int .i8 s0, .int .i8 s1, .bool half]] w (Ret (fun r w' => ∃ vp vt, r = .agg #[vp, vt] /\ RdP w' vp (strP P) /\ RdT w' vt (shapeT k)) w)) := fun w hg => by rw [hP]; exact make12_any w kz s0 s1 half k hk hk0 hk1 hs0 hs1 hg
 have HMB : Hid (∀ (w : World) (pp : Option Addr) (cp : Nat) (vt : Value), Good w -> Calls Tryz.prog 18 #[.agg #[.slice pp P.length cp, vt], .agg #[.int .i8 a0, .int .i8 a1, .int .i8 a2, .int .i8 a3, .int .i8 a4, .int .i8 a5, .bool ah]] w (Ret (fun r w' => RdQ w' r B /\ FreshV w.heap.size r) w)) := fun w pp cp vt hg => by rw [hB]; exact make13_any w pp P.length cp vt a0 a1 a2 a3 a4 a5 ah ha hP6 hg
 have HFB : Hid (∀ q ∈ B, Fr 2 38 q) := by unfold Hid; rw [hB]; exact fr_height _ _ _
 have HBL : Hid (B.length = P.length) := by unfold Hid; rw [hB, heightsF_length]
 have HH := Lib.hid hH;obtain ⟨ph, ch, rfl, hc1, hc2, -⟩ := hH.1;unfold maxLen at hc2;have HP := Lib.hid hP;clear hH hP hB ha hk;obtain ⟨n, hn⟩ : ∃ n, n = H.length := ⟨_, rfl⟩;have HN := Lib.hid hn;rw [<- hn] at hc1 hH3 ⊢;clear hn;obtain ⟨i0, hi, hz0, hz1, hz2⟩ := info_parts info_str;go_enter Tryz.func15, Tryz.ntmps15;go_upto_region 1 with fail;obtain ⟨W, hW⟩ : ∃ W, W = ((w.alloc (.cells #[.int .u8 kz, .int .i8 s0, .int .i8 s1, .bool half, .int .i8 a0, .int .i8 a1, .int .i8 a2, .int .i8 a3, .int .i8 a4, .int .i8 a5, .bool ah, .slice ph n ch] 31)).alloc (.cells #[.slice none 0 0, .slice none 0 0] 37)).alloc (.cells #[.slice none 0 0, .slice none 0 0, .slice none 0 0] 43) := ⟨_, rfl⟩;have hB : Below w.heap.size w W := by rw [hW]; exact (((Below.refl _ _).alloc (Nat.le_refl _) _).alloc (by simp) _).alloc (by simp; omega) _
 have bx : BoxN W w.heap.size 31 [.int .u8 kz, .int .i8 s0, .int .i8 s1, .bool half, .int .i8 a0, .int .i8 a1, .int .i8 a2, .int .i8 a3, .int .i8 a4, .int .i8 a5, .bool ah, .slice ph n ch] := by
  rw [hW];have h1 := BoxN.new w #[.int .u8 kz, .int .i8 s0, .int .i8 s1, .bool half, .int .i8 a0, .int .i8 a1, .int .i8 a2, .int .i8 a3, .int .i8 a4, .int .i8 a5, .bool ah, .slice ph n ch] 31 _ rfl;exact (h1.below ((Below.refl _ _).alloc (Nat.le_refl _) _) h1.lt).below ((Below.refl _ _).alloc (Nat.le_refl _) _) (by simp; omega)
 have bm : BoxN W (w.heap.size + 1) 37 [.slice none 0 0, .slice none 0 0] := by
  rw [hW];have h1 := BoxN.new (w.alloc (.cells #[.int .u8 kz, .int .i8 s0, .int .i8 s1, .bool half, .int .i8 a0, .int .i8 a1, .int .i8 a2, .int .i8 a3, .int .i8 a4, .int .i8 a5, .bool ah, .slice ph n ch] 31)) #[.slice none 0 0, .slice none 0 0] 37 (w.heap.size + 1) (by simp);exact h1.below (zal _ _) h1.lt
 have bd : BoxN W (w.heap.size + 2) 43 [.slice none 0 0, .slice none 0 0, .slice none 0 0] := by rw [hW]; exact BoxN.new _ _ _ _ (by simp)
 have hWz : W.heap.size = w.heap.size + 3 := by rw [hW]; simp
 rw [<- hW];clear hW;have k0 := bx.cell 0 rfl;have k1 := bx.cell 1 rfl;have k2 := bx.cell 2 rfl;have k3 := bx.cell 3 rfl;go_wp2_with fail;refine (HMK.out W (hg.below hB)).mono ?_;rintro e o2 ⟨_, rfl, ⟨vp, vt, rfl, hp, ht⟩, hb2⟩;have hB2 := hB.trans (hb2.mono hB.size);replace bx := bx.below hb2 bx.lt;replace bm := bm.below hb2 bm.lt;replace bd := bd.below hb2 bd.lt;have hz12 := bd.lt;obtain ⟨pp, cp, rfl, -, -, -⟩ := hp.open;obtain ⟨pt, ct, rfl, -, -, -⟩ := ht.open;rw [strP_length] at *;clear k0 k1 k2 k3 HMK;go_upto_region 2 with fail;obtain ⟨o3, ho3⟩ : ∃ W, W = o2.alloc (.cells #[.slice pp P.length cp, .slice pt (shapeT k).length ct] 37) := ⟨_, rfl⟩;have h23 : Below o2.heap.size o2 o3 := by rw [ho3]; exact zal _ _
 have b5 : BoxN o3 o2.heap.size 37 [.slice pp P.length cp, .slice pt (shapeT k).length ct] := by rw [ho3]; exact BoxN.new _ _ _ _ rfl
 have hB3 := hB2.trans (h23.mono hB2.size);replace bx := bx.below h23 bx.lt;replace bm := bm.below h23 bm.lt;replace bd := bd.below h23 bd.lt;have hp3 := RdC.below hp h23;have ht3 := RdC.below ht h23;rw [<- ho3];clear ho3 hp ht h23 hb2;have m0 := b5.cell 0 rfl;have m1 := b5.cell 1 rfl;have k4 := bx.cell 4 rfl;have k5 := bx.cell 5 rfl;have k6 := bx.cell 6 rfl;have k7 := bx.cell 7 rfl;have k8 := bx.cell 8 rfl;have k9 := bx.cell 9 rfl;have k10 := bx.cell 10 rfl;go_wp2_with fail;refine (HMB.out o3 _ _ _ (hg.below hB3)).mono ?_;rintro e o4 ⟨_, rfl, ⟨hrb, -⟩, hb4⟩;have hB4 := hB3.trans (hb4.mono hB3.size);replace bx := bx.below hb4 bx.lt;replace bm := bm.below hb4 bm.lt;replace bd := bd.below hb4 bd.lt;replace b5 := b5.below hb4 b5.lt;replace hp3 := RdC.below hp3 hb4;replace ht3 := RdC.below ht3 hb4;obtain ⟨pb, cb, rfl, -, -, -⟩ := hrb.open;rw [HBL.out];clear m0 m1 k4 k5 k6 k7 k8 k9 k10 hb4;go_upto_region 3 with fail;obtain ⟨V, hV⟩ : ∃ V, V = (o4.alloc (.cells #[.string ⟨#[117, 49]⟩] 9)).alloc (.cells #[.slice pb P.length cb, .slice (some ⟨o4.heap.size, 0, none⟩) 1 1, .slice none 0 0] 43) := ⟨_, rfl⟩;have h4V : Below o4.heap.size o4 V := by rw [hV]; exact zal2 _ _ _
 have ownU : V.ownsRow o4.heap.size 9 1 (.slice (some ⟨o4.heap.size, 0, none⟩) 1 1) 1 ((unitTo 1).map fun x => Value.string x) := by
  rw [hV];exact World.ownsRow.belowAll (owns_one28 o4 o4.heap.size 9 (.string ⟨#[117, 49]⟩) (Nat.le_refl _)) ((Below.refl _ _).alloc (Nat.le_refl _) _)
 have bD : BoxN V (o4.heap.size + 1) 43 [.slice pb P.length cb, .slice (some ⟨o4.heap.size, 0, none⟩) 1 1, .slice none 0 0] := by rw [hV]; exact BoxN.new _ _ _ _ (by simp)
 have hVz : V.heap.size = o4.heap.size + 2 := by rw [hV]; simp
 rw [<- hV];clear hV;have hB5 := hB4.trans (h4V.mono hB4.size);have e0 := bD.cell 0 rfl;have HBX := Lib.hid bx;have HB5 := Lib.hid b5;have HRB : Hid (RdQ o4 (.slice pb P.length cb) B) := by unfold Hid; rw [<- HBL.out]; exact hrb
 have HTL := Lib.hid (topTo_length P.length B H HBL.out);go_wp2_with fail;go_loopw [6, 7] (fun t6 t7 wr => ∃ (i : Nat) (pt6 : Option Addr) (c6 : Nat) (vu vs : Value), t7 = .int .i64 i /\ i <= n /\ t6 = .slice pt6 P.length c6 /\ RdQ wr t6 (topTo P.length B H i) /\ wr.ownsRow o4.heap.size 9 1 vu (i + 1) ((unitTo (i + 1)).map fun x => Value.string x) /\ FlsV 39 wr o4.heap.size vs (surfTo P.length B H i) /\ BoxN wr (o4.heap.size + 1) 43 [.slice pb P.length cb, vu, vs] /\ Below o4.heap.size o4 wr /\ V.heap.size <= wr.heap.size) (fun _ t7 _ => n - (RowKit.intOf t7).toNat)
 case atStart => exact ⟨0, _, _, _, _, rfl, Nat.zero_le _, rfl, by exact RdC.below HRB.out h4V, ownU, FlsV.nil _ _ _, bD, h4V, Nat.le_refl _⟩
 case round =>
  obtain ⟨i, pt6, c6, vu, vs, rfl, hin, rfl, hr6, hou, hos, hbD, hbr, hzr⟩ := hrel;obtain ⟨pu, cu, rfl⟩ := ownsRow_shape hou;obtain ⟨ps, cs, rfl⟩ := hos.shape;have hBr := hB4.trans (hbr.mono hB4.size);have cbx := HBX.out.below hbr HBX.out.lt;have c5 := HB5.out.below hbr HB5.out.lt;have k11 := cbx.cell 11 rfl;have m0 := c5.cell 0 rfl;have m1 := c5.cell 1 rfl;rcases Nat.lt_or_ge i n with h | h
  ·have hiz : (i : Int) < (n : Int) := by omega
   have hi3 : (i : Int) < 3 := by omega
   have hlt : i < H.length := by have := HN.out; omega
   obtain ⟨bh, oh, ch', x0, x1, x2, x3, x4, x5, hf, ev, hbh, hHi, hbd, y0, y1, y2, y3, y4, y5, y6⟩ := HH.out.cells hlt;rw [<- HN.out] at ev;injection ev with ev1 ev2 ev3
   clear ev2;subst ev1 ev3;replace y0 := (zcq hBr hbh y0 :);replace y1 := (zcq hBr hbh y1 :);replace y2 := (zcq hBr hbh y2 :);replace y3 := (zcq hBr hbh y3 :);replace y4 := (zcq hBr hbh y4 :);replace y5 := (zcq hBr hbh y5 :);replace y6 := (zcq hBr hbh y6 :);have HMS := Lib.hid fun w hg => make13_any w pp P.length cp (.slice pt (shapeT k).length ct) x0 x1 x2 x3 x4 x5 hf hbd hP6 hg;have HPO : Hid (∀ (w : World) (v : Value), RdQ w v (heightsF [x0, x1, x2, x3, x4, x5] hf P.length) -> _) := fun w v hr => positive_any w v _ hr (by rw [heightsF_length]; omega) (fun q hq => Nat.le_trans (((heights_Sz [x0, x1, x2, x3, x4, x5] hf P.length) q hq).size (by omega)) (by omega))
   have HST : Hid ((heightsF [x0, x1, x2, x3, x4, x5] hf P.length).map Rat.abs = stepF P.length (H[i]?.getD ([], false))) := by unfold Hid stepF; rw [List.getElem?_eq_getElem hlt, hHi]; rfl
   have hgd : Good wr.drew := (hg.below hBr).drewN 1;have hk1 := cbx.lt;have hk2 := c5.lt;have hk3 : bh < wr.heap.size := Nat.lt_of_lt_of_le hbh hBr.size;clear hHi hbd;go_upto_region 7 with fail;go_region_held3 (fun w' => w'.cell? ⟨o2.heap.size, 0, none⟩ = some (.slice pp P.length cp) /\ w'.cell? ⟨o2.heap.size, 1, none⟩ = some (.slice pt (shapeT k).length ct) /\ w'.cell? ⟨w.heap.size, 11, none⟩ = some (.slice (some ⟨bh, oh, none⟩) n ch) /\ w'.cell? ⟨bh, oh + i * 7, none⟩ = some (.int .i8 x0) /\ w'.cell? ⟨bh, oh + i * 7 + 1, none⟩ = some (.int .i8 x1) /\ w'.cell? ⟨bh, oh + i * 7 + 2, none⟩ = some (.int .i8 x2) /\ w'.cell? ⟨bh, oh + i * 7 + 3, none⟩ = some (.int .i8 x3) /\ w'.cell? ⟨bh, oh + i * 7 + 4, none⟩ = some (.int .i8 x4) /\ w'.cell? ⟨bh, oh + i * 7 + 5, none⟩ = some (.int .i8 x5) /\ w'.cell? ⟨bh, oh + i * 7 + 6, none⟩ = some (.bool hf))
    (first | exact ⟨m0, m1, k11, y0, y1, y2, y3, y4, y5, y6⟩ | exact ⟨p_1_0, p_1_1, p_1_2, p_1_3, p_1_4, p_1_5, p_1_6, p_1_7, p_1_8, p_1_9⟩ | exact ⟨p_2_0, p_2_1, p_2_2, p_2_3, p_2_4, p_2_5, p_2_6, p_2_7, p_2_8, p_2_9⟩)
    (first
    | (go_at_call 44; refine (HPO.out _ _ HRS.out).mono ?_; rintro e pw2 ⟨vP, rfl, hrp, pb2⟩
       have p_2_0 := zct pb2 p_1_0;have p_2_1 := zct pb2 p_1_1;have p_2_2 := zct pb2 p_1_2;have p_2_3 := zct pb2 p_1_3;have p_2_4 := zct pb2 p_1_4;have p_2_5 := zct pb2 p_1_5;have p_2_6 := zct pb2 p_1_6;have p_2_7 := zct pb2 p_1_7;have p_2_8 := zct pb2 p_1_8;have p_2_9 := zct pb2 p_1_9;have ps2 := pb2.size;have pg2 := pg1.below pb2;have HRP := Lib.hid hrp)
    | (go_at_call 18; refine (HMS.out _ hgd).mono ?_; rintro e pw1 ⟨_, rfl, ⟨hrs, _⟩, pb1⟩
       have p_1_0 := zct pb1 m0;have p_1_1 := zct pb1 m1;have p_1_2 := zct pb1 k11;have p_1_3 := zct pb1 y0;have p_1_4 := zct pb1 y1;have p_1_5 := zct pb1 y2;have p_1_6 := zct pb1 y3;have p_1_7 := zct pb1 y4;have p_1_8 := zct pb1 y5;have p_1_9 := zct pb1 y6;have ps1 : wr.heap.size <= pw1.heap.size := pb1.size;have pg1 := hgd.below pb1;have HRS := Lib.hid hrs))
   have pB : Below wr.heap.size wr pw2 := zbt (zbt (below_drewN wr 1) pb1) pb2;have hbr2 : Below o4.heap.size o4 pw2 := hbr.trans (pB.mono hbr.size);have hB2' := hB4.trans (hbr2.mono hB4.size);have hou2 := World.ownsRow.belowAll hou pB;have hos2 := hos.below pB;have hbD2 := hbD.below pB hbD.lt;have hr62 : RdQ pw2 (.slice pt6 P.length c6) (topTo P.length B H i) := RdC.below hr6 pB;have hzp : wr.heap.size <= pw2.heap.size := pB.size;have hrp2 : RdQ pw2 vP (stepF P.length (H[i]?.getD ([], false))) := by rw [<- HST.out]; exact HRP.out.rd
   have hsl := stepF_length P.length (H[i]?.getD ([], false));have hsl2 := stepF_length P.length (H[i]?.getD ([], false));obtain ⟨pf, cf, rfl, -, -, -⟩ := hrp2.open;rw [hsl] at hrp2 ⊢;clear pB pb1 pb2 ps1 ps2 pg1 pg2 hgd hrs hrp HRS HRP HMS HPO HST hou hos hbD hr6 m0 m1 k11 y0 y1 y2 y3 y4 y5 y6 p_1_0 p_1_1 p_1_2 p_1_3 p_1_4 p_1_5 p_1_6 p_1_7 p_1_8 p_1_9 p_2_0 p_2_1 p_2_2 p_2_3 p_2_4 p_2_5 p_2_6 p_2_7 p_2_8 p_2_9;have hfrT : ∀ j (hj : j < (topTo P.length B H i).length), Sz 3 (topTo P.length B H i)[j] := fun j hj => sz3_of_fr ((fr_top P.length B H HFB.out i _ (List.getElem_mem hj)).mono (by omega))
   have hfrS : ∀ j (hj : j < (stepF P.length (H[i]?.getD ([], false))).length), Sz 3 (stepF P.length (H[i]?.getD ([], false)))[j] := fun j hj => sz3_of_fr ((fr_step P.length _ _ (List.getElem_mem hj)).mono (by omega))
   have HFT := Lib.hid hfrT;have HFS := Lib.hid hfrS;have htl := HTL.out i;have HNXT : Hid (topTo P.length B H (i + 1) = List.zipWith (·+ ·) (topTo P.length B H i) (stepF P.length (H[i]?.getD ([], false)))) := rfl;have HTL1 := Lib.hid (HTL.out (i + 1));have HSF := Lib.hid (surfTo_next P.length B H i);have HSL := Lib.hid (surfTo_length P.length B H i);generalize hZ : topTo P.length B H (i + 1) = Z at *;have HZE := Lib.hid hZ;clear hZ;generalize topTo P.length B H i = top at *;generalize stepF P.length (H[i]?.getD ([], false)) = st at *;generalize hSZ : surfTo P.length B H (i + 1) = SZ at *;have HSE := Lib.hid hSZ;clear hSZ;generalize surfTo P.length B H i = SF at *;have HR6 := Lib.hid hr62;have HRS2 := Lib.hid hrp2;clear hfrT hfrS hsl;have HTPL := Lib.hid htl;have HSPL := Lib.hid hsl2;clear htl hsl2 hr62 hrp2;obtain ⟨wa, hwa⟩ : ∃ x, x = wr := ⟨_, rfl⟩;subst hwa;go_wp2_with fail;obtain ⟨X, hX⟩ : ∃ X, X = pw2.alloc (.cells #[] 57) := ⟨_, rfl⟩;have hBX : Below pw2.heap.size pw2 X := by rw [hX]; exact zal _ _
   have h0X : X.ownsRow pw2.heap.size 57 1 (.slice (some ⟨pw2.heap.size, 0, none⟩) 0 0) 0 ([] : List Value) := by
    rw [hX];have := World.ownsRow_lit (base := pw2.heap.size) (e := 57) (size := 1) pw2 #[] 0 (by simp) (by decide) rfl;simpa using this
   rw [<- hX];clear hX;go_loopw [9, 10] (fun t9 t10 wr => ∃ (j : Nat), t10 = .int .i64 j /\ j <= P.length /\ wr.ownsRow pw2.heap.size 57 1 t9 j (cellsFd (Z.take j)) /\ Below pw2.heap.size pw2 wr) (fun _ t10 _ => P.length - (RowKit.intOf t10).toNat)
   case atStart => exact ⟨0, rfl, Nat.zero_le _, h0X, hBX⟩
   case round =>
    obtain ⟨j, rfl, hjn, hown, hbj⟩ := hrel;obtain ⟨p9, c9, rfl⟩ := ownsRow_shape hown;rcases Nat.lt_or_ge j P.length with hj | hj
    ·obtain ⟨b6, o6, c6', ev, hb6, hc6⟩ := HR6.out.cells (by have := HTPL.out; omega)
     obtain ⟨bs, os, cs', ev2, hbs, hcs⟩ := HRS2.out.cells (by have := HSPL.out; omega);injection ev with ev1 ev2' ev3
     injection ev2 with ev4 ev5 ev6
     clear ev2' ev5;subst ev1 ev3 ev4 ev6;have hjt : j < top.length := by have := HTPL.out; omega
     have hjs : j < st.length := by have := HSPL.out; omega
     have l1 := hc6 j hjt;have u1 := hcs j hjs;rw [hI_nat top j hjt] at l1;rw [hI_nat st j hjs] at u1;have HTK : Hid (Z.take (j + 1) = Z.take j ++ [top[j] + st[j]]) := by
      unfold Hid;have hz : j < Z.length := by have := HTL1.out; omega
      rw [List.take_succ_eq_append_getElem hz];congr 2;have e : Z[j]? = (List.zipWith (·+ ·) top st)[j]? := by rw [HNXT.out]
      rw [List.getElem?_eq_getElem hz, List.getElem?_eq_getElem (by rw [List.length_zipWith]; omega), List.getElem_zipWith] at e;exact Option.some.inj e
     have HAD := Lib.hid fun w hg => ratAdd_any top[j] st[j] 3 (by decide) (by decide) (HFT.out j hjt) (HFS.out j hjs) w hg
     generalize top[j] = l at *;generalize st[j] = u at *;have hjz : (j : Int) < (P.length : Int) := by omega
     have HGD : Hid (∀ w', Below pw2.heap.size pw2 w' -> Good w') := fun w' hb => hg.below (hB2'.trans (hb.mono hB2'.size));have HKA : Hid (∀ w', Below pw2.heap.size pw2 w' -> w'.cell? ⟨b6, o6 + j, none⟩ = some (.string (RS l)) /\ w'.cell? ⟨bs, os + j, none⟩ = some (.string (RS u))) := fun w' hb => ⟨(zcq hb hb6 l1 :), (zcq hb hbs u1 :)⟩;have hrr : Below pw2.heap.size pw2 wr.drew := hbj.trans ((below_drewN wr 1).mono hbj.size);have hB0 : Below wr.heap.size wr wr.drew := below_drewN wr 1;have own0 := World.ownsRow.belowAll hown hB0;have hzq := hbj.size;clear hown l1 u1 hc6 hcs hjt hjs;go_upto_region 12 with fail;refine AnyL.region (S := Till 11 (fun w' => w'.cell? ⟨b6, o6 + j, none⟩ = some (.string (RS l)) /\ w'.cell? ⟨bs, os + j, none⟩ = some (.string (RS u))) (fun _ => True)) (by kernel_rfl) ?_;have hHeld : Till 11 (fun w' => w'.cell? ⟨b6, o6 + j, none⟩ = some (.string (RS l)) /\ w'.cell? ⟨bs, os + j, none⟩ = some (.string (RS u))) (fun _ => True) (Array.replicate 13 false) _ := ⟨HKA.out _ hrr, fun _ => trivial⟩;refine AnyL.take (i := 0) (oi := _) (v := ?_) rfl (by kernel_rfl) (by kernel_rfl) (by kernel_rfl) (by decide) (fun _ _ _ h => h) (Or.inl ⟨by rfl, ?_⟩) ⟨hHeld.1, fun _ => hHeld.2 (by rfl)⟩ ?_;rotate_left
     ·intro w hSw; (try dsimp only at hSw); first | (go_simp; done) | (go_simp; with_reducible rfl)
     try simp only [Act.put]
     refine AnyL.take (i := 1) (oi := _) (v := ?_) rfl (by kernel_rfl) (by kernel_rfl) (by kernel_rfl) (by decide) (fun _ _ _ h => h) (Or.inl ⟨by rfl, ?_⟩) ⟨hHeld.1, fun _ => hHeld.2 (by rfl)⟩ ?_;rotate_left
     ·intro w hSw; (try dsimp only at hSw); first | (go_simp; done) | (go_simp; with_reducible rfl)
     try simp only [Act.put]
     refine AnyL.take (i := 2) (oi := _) (v := ?_) rfl (by kernel_rfl) (by kernel_rfl) (by kernel_rfl) (by decide) (fun _ _ _ h => h) (Or.inl ⟨by rfl, ?_⟩) ⟨hHeld.1, fun _ => hHeld.2 (by rfl)⟩ ?_;rotate_left
     ·intro w hSw; (try dsimp only at hSw); first | (go_simp; done) | (go_simp; with_reducible rfl)
     try simp only [Act.put]
     refine AnyL.take (i := 3) (oi := _) (v := ?_) rfl (by kernel_rfl) (by kernel_rfl) (by kernel_rfl) (by decide) (fun _ _ _ h => h) (Or.inl ⟨by rfl, ?_⟩) ⟨hHeld.1, fun _ => hHeld.2 (by rfl)⟩ ?_;rotate_left
     ·intro w hSw; (try dsimp only at hSw); first | (go_simp; done) | (go_simp; with_reducible rfl)
     try simp only [Act.put]
     refine AnyL.take (i := 4) (oi := _) (v := ?_) rfl (by kernel_rfl) (by kernel_rfl) (by kernel_rfl) (by decide) (fun _ _ _ h => h) (Or.inl ⟨by rfl, ?_⟩) ⟨hHeld.1, fun _ => hHeld.2 (by rfl)⟩ ?_;rotate_left
     ·intro w hSw; (try dsimp only at hSw); first | (go_simp; done) | (go_simp; with_reducible rfl)
     try simp only [Act.put]
     refine AnyL.take (i := 5) (oi := _) (v := ?_) rfl (by kernel_rfl) (by kernel_rfl) (by kernel_rfl) (by decide) (fun _ _ _ h => h) (Or.inl ⟨by rfl, ?_⟩) ⟨hHeld.1, fun _ => hHeld.2 (by rfl)⟩ ?_;rotate_left
     ·intro w hSw; (try dsimp only at hSw); first | (go_simp; done) | (go_simp; with_reducible rfl)
     try simp only [Act.put]
     refine AnyL.take (i := 6) (oi := _) (v := ?_) rfl (by kernel_rfl) (by kernel_rfl) (by kernel_rfl) (by decide) (fun _ _ _ h => h) (Or.inl ⟨by rfl, ?_⟩) ⟨hHeld.1, fun _ => hHeld.2 (by rfl)⟩ ?_;rotate_left
     ·intro w hSw; (try dsimp only at hSw); first | (go_simp; done) | (go_simp; with_reducible rfl)
     try simp only [Act.put]
     refine AnyL.take (i := 7) (oi := _) (v := ?_) rfl (by kernel_rfl) (by kernel_rfl) (by kernel_rfl) (by decide) (fun _ _ _ h => h) (Or.inl ⟨by rfl, ?_⟩) ⟨hHeld.1, fun _ => hHeld.2 (by rfl)⟩ ?_;rotate_left
     ·intro w hSw; (try dsimp only at hSw); first | (go_simp; done) | (go_simp; with_reducible rfl)
     try simp only [Act.put]
     refine AnyL.take (i := 8) (oi := _) (v := ?_) rfl (by kernel_rfl) (by kernel_rfl) (by kernel_rfl) (by decide) (fun _ _ _ h => h) (Or.inl ⟨by rfl, ?_⟩) ⟨hHeld.1, fun _ => hHeld.2 (by rfl)⟩ ?_;rotate_left
     ·intro w hSw; (try dsimp only at hSw); first | (go_simp; done) | (go_simp; with_reducible rfl)
     try simp only [Act.put]
     refine AnyL.one (i := 9) (o := _) (by kernel_rfl) rfl (fun K hK => ?_);go_simp
     (refine (HAD.out _ (HGD.out _ hrr)).mono ?_; rintro e y1 ⟨_, rfl, rfl, hy1⟩; have hr1 := hrr.trans (hy1.mono hrr.size); have own1 := World.ownsRow.belowAll own0 hy1)
     refine hK.out _ _ ⟨HKA.out _ hr1, fun hk => trivial⟩ (fun hHeld => ?_);clear hK K;try simp only [Act.put]
     refine AnyL.one (i := 10) (o := _) (by kernel_rfl) rfl (fun K hK => ?_);go_simp;refine hK.out _ _ ⟨HKA.out _ (hr1.alloc hr1.size _), fun hk => trivial⟩ (fun hHeld => ?_);clear hK K;try simp only [Act.put]
     refine AnyL.one (i := 11) (o := _) (by kernel_rfl) rfl (fun K hK => ?_)
     (rw [if_pos (by simp [Region.wanted])]; refine wp_append_own _ (.tmp 48) (.tmp 58) 39 (by rfl) pw2.heap.size 57 i0 (.string ⟨#[]⟩) 1 16 Tryz.underlying39 hi hz0 hz1 hz2 rfl (by decide) _ _ _ (by simp [Act.eval]) (own1.alloc _) ⟨y1.heap.size, 0, none⟩ 1 1 [.string (RS (l + u))] (by simp [Act.eval]) rfl (cell_one_str _ _ _) (one_cell_str _) (by unfold maxLen; omega) (by omega) (by have := hr1.size; simp; omega) ?_; intro v8 w8 hown8 hgr8 _; have hr8 := (hr1.alloc hr1.size (.cells #[.string (RS (l + u))] 57)).grown hgr8 (by have := hr1.size; simp; omega) (fun j hj => by have := (own1.lt j hj).1; omega))
     refine hK.out _ _ ⟨HKA.out _ hr8, fun hk => trivial⟩ (fun hHeld => ?_);clear hK K;try simp only [Act.put]
     refine AnyL.take (i := 12) (oi := _) (v := ?_) rfl (by kernel_rfl) (by kernel_rfl) (by kernel_rfl) (by decide) (fun _ _ _ h => h) (Or.inl ⟨by rfl, ?_⟩) ⟨hHeld.1, fun hk => (by simp at hk)⟩ ?_;rotate_left
     ·intro w hSw; (try dsimp only at hSw); first | (go_simp; done) | (go_simp; with_reducible rfl)
     try simp only [Act.put]
     refine AnyL.done (by kernel_rfl) ?_ _;have hown9 : w8.ownsRow pw2.heap.size 57 1 v8 (j + 1) (cellsFd (Z.take (j + 1))) := by
      rw [HTK.out];unfold cellsFd at hown8 ⊢;rw [List.map_append];exact hown8
     clear own0 own1 hgr8 hy1 hr1 hrr HKA HAD HGD hB0 hown8;go_wp2_with fail;go_roundw
     case rel => exact ⟨j + 1, by go_num, by omega, hown9, hr8⟩
     case measure => simp [RowKit.intOf]; omega
    ·obtain rfl : j = P.length := by omega
     have hzq := hbj.size;have hbase : o4.heap.size <= pw2.heap.size := hbr2.size;have hF1 : FldV wr o4.heap.size (.slice p9 P.length c9) Z := by
      have h1 := hown;rw [List.take_of_length_le (by have := HTL1.out; omega)] at h1;have h2 : FldV wr pw2.heap.size (.slice p9 P.length c9) Z := by unfold FldV; rw [HTL1.out]; exact h1
      exact h2.base hbase
     obtain ⟨us, hul, hus, huf⟩ := hos2.below hbj;have hou3 := World.ownsRow.belowAll hou2 hbj;have hbD3 := hbD2.below hbj hbD2.lt;have hbr3 := hbr2.trans (hbj.mono hbr2.size);have d1 := hbD3.cell 1 rfl;have d2 := hbD3.cell 2 rfl;have f1 := hbD3.frozen 1;have f2 := hbD3.frozen 2;obtain ⟨j0, hj, hy0, hy1, hy2⟩ := info_parts info_Fd;rw [HSL.out] at hul hus hbD3 d2;try rw [HSL.out]
     clear hown hou2 hbD2;have husa := hus.alloc (.cells #[.slice p9 P.length c9] 39);have hou3a := hou3.alloc (.cells #[.slice p9 P.length c9] 39);have hF1a : (wr.alloc (.cells #[.slice p9 P.length c9] 39)).ownsRow o4.heap.size 57 1 (.slice p9 P.length c9) Z.length (cellsFd Z) := World.ownsRow.alloc hF1 _;have hbD3a := hbD3.alloc (.cells #[.slice p9 P.length c9] 39);have hbr3a := hbr3.alloc hbr3.size (.cells #[.slice p9 P.length c9] 39);have nDS := owns_boxN husa hbD3a (by decide);have apU := owns_apart hou3a husa (by decide);have apF := owns_apart hF1a husa (by decide);have hsz3 := hbr3.size;clear cbx c5 hbD3 hF1 hou3
     go_upto_region 14 with (at_builtin; refine wpList_append_own _ rfl _ _ 41 rfl o4.heap.size 39 j0 (.slice none 0 0) 1 24 Tryz.underlying41 hj hy0 hy1 hy2 rfl (by decide) _ _ _ rfl husa ⟨wr.heap.size, 0, none⟩ 1 1 [.slice p9 P.length c9] rfl rfl (cell_one_new _ _ _) (by intro u hu; simp at hu; subst hu; rfl) (by unfold maxLen; omega) (by omega) (by simp; omega) ?_
                             intro v3 w3 hus3 hgrow3 _;have hbr4 : Below o4.heap.size o4 w3 := hbr3a.grown hgrow3 (by simp; omega) (fun j hj => (husa.lt j hj).1);have hou4 := World.ownsRow.kept hou3a hgrow3 apU;have hbD4 := hbD3a.gb hgrow3 (fun e => nDS e.symm);have hF4 := World.ownsRow.kept hF1a hgrow3 apF;have d1' := hbD4.cell 1 rfl;have d2' := hbD4.cell 2 rfl;have f1' := hbD4.frozen 1;have f2' := hbD4.frozen 2;obtain ⟨p3, c3, rfl⟩ := ownsRow_shape hus3)
     obtain ⟨y, hy⟩ : ∃ y, y = w3.setCell ⟨o4.heap.size + 1, 2, none⟩ (.slice p3 (i + 1) c3) := ⟨_, rfl⟩;have hgy : w3.grownBy y (some (o4.heap.size + 1)) := by rw [hy]; exact gb_set (gb_refl w3 _) 2 _
     have hbD5 : BoxN y (o4.heap.size + 1) 43 [.slice pb P.length cb, .slice pu (i + 1) cu, .slice p3 (i + 1) c3] := by rw [hy]; exact hbD4.set 2 _
     have hbr5 : Below o4.heap.size o4 y := by rw [hy]; exact hbr4.setCell (p := ⟨o4.heap.size + 1, 2, none⟩) (by show o4.heap.size <= o4.heap.size + 1; omega) _
     have hou5 := World.ownsRow.kept hou4 hgy (.inr (fun e => owns_boxN hou4 hbD4 (by decide) e.symm));have hF5 := World.ownsRow.kept hF4 hgy (.inr (fun e => owns_boxN hF4 hbD4 (by decide) e.symm));have hos4 : FlsV 39 w3 o4.heap.size (.slice p3 (i + 1) c3) SZ := by
      rw [HSF.out];refine FlsV.snoc (us := us) (v := .slice ps i cs) (by decide) (by rw [hul, HSL.out]) (by rw [HSL.out]; exact husa) (fun i u F a b => World.ownsRow.alloc (huf i u F a b) _) hgrow3 (by rw [HSL.out]; exact hus3) hF1a
     have hos5 := hos4.kept hgy (fun x e s n xs _ h => .inr (fun e' => owns_boxN h hbD4 (by rename_i he; rcases he with rfl | rfl <;> decide) e'.symm));rw [<- hy];have hyz : o4.heap.size <= y.heap.size := hbr5.size;have q1 := hbD5.cell 1 rfl;have q1f := hbD5.frozen 1;clear hy hgy hos4 hou4 hbD4 hF4 hbr4 hus3 hgrow3 d1' d2' f1' f2' d1 d2 f1 f2 husa hou3a hF1a hbD3a hbr3a nDS apU apF hus huf hul hj hy0 hy1 hy2;obtain ⟨bv, hbv⟩ : ∃ bv : UInt8, bv = (49 + (i + 1)).toUInt8 := ⟨_, rfl⟩;have hbn : (bv.toNat : Int) = 50 + (i : Int) := by
      rw [hbv];have : (49 + (i + 1)).toUInt8.toNat = 50 + i := by
       simp [Nat.toUInt8];omega
      rw [this]; omega
     have HNU : Hid ((⟨#[117, bv]⟩ : ByteArray) = nameU (i + 1)) := by unfold Hid nameU; rw [hbv]
     have HUN := Lib.hid (unitTo_next (i + 1));have hwu : IntKind.u8.wrap (i : Int) = (i : Int) := IntWalk.u8_in _ (by omega);have hwv : IntKind.u8.wrap (50 + (i : Int)) = 50 + (i : Int) := IntWalk.u8_in _ (by omega);have hcv : (convert 108 9 (.slice (some ⟨y.heap.size, 0, none⟩) 2 2)).run Tryz.prog (y.alloc (.cells #[.int .u8 117, .int .u8 (50 + (i : Int))] 5)) = .ok (.string (nameU (i + 1))) (y.alloc (.cells #[.int .u8 117, .int .u8 (50 + (i : Int))] 5)) := by
      have h1 := run_convert_bytes_back (P := Tryz.prog) (y.alloc (.cells #[.int .u8 117, .int .u8 (50 + (i : Int))] 5)) 108 9 5 ⟨y.heap.size, 0, none⟩ 2 [117, bv] Tryz.underlying108 Tryz.underlying5 Tryz.underlying9 (fun j hj => by
       have hb := BoxN.new y #[.int .u8 117, .int .u8 (50 + (i : Int))] 5 _ rfl
       match j, hj with
       | 0, _ => exact hb.cell 0 rfl
       | 1, _ =>
         show _ = some (Value.int .u8 (bv.toNat : Int));rw [hbn];exact hb.cell 1 rfl)
      rw [<- HNU.out];exact h1
     generalize nameU (i + 1) = nm at *;have hou5b := (hou5.alloc (.cells #[.int .u8 117, .int .u8 (50 + (i : Int))] 5)).alloc (.cells #[.string nm] 9);obtain ⟨j1, hj1, hv0, hv1, hv2⟩ := info_parts info_Sg;have hbD5b := (hbD5.alloc (.cells #[.int .u8 117, .int .u8 (50 + (i : Int))] 5)).alloc (.cells #[.string nm] 9);have hbr5b := (hbr5.alloc hbr5.size (.cells #[.int .u8 117, .int .u8 (50 + (i : Int))] 5)).alloc (by simp; omega) (.cells #[.string nm] 9);have hF5b := World.ownsRow.alloc (World.ownsRow.alloc hF5 (.cells #[.int .u8 117, .int .u8 (50 + (i : Int))] 5)) (.cells #[.string nm] 9);have hos5b := hos5.below (((Below.refl _ _).alloc (Nat.le_refl _) (.cells #[.int .u8 117, .int .u8 (50 + (i : Int))] 5)).alloc (by simp) (.cells #[.string nm] 9));have nDU := owns_boxN hou5b hbD5b (by decide);have apF := owns_apart hF5b hou5b (by decide)
     go_upto_region 15 with (at_builtin; refine wpList_append_own _ rfl _ _ 40 rfl o4.heap.size 9 j1 (.string ⟨#[]⟩) 1 16 Tryz.underlying40 hj1 hv0 hv1 hv2 rfl (by decide) _ _ _ rfl hou5b ⟨y.heap.size + 1, 0, none⟩ 1 1 [.string nm] rfl rfl (by intro j u hu; have := cell_one_new (y.alloc (.cells #[.int .u8 117, .int .u8 (50 + (i : Int))] 5)) (.string nm) 9 j u hu; simpa using this) (one_cell_str _) (by unfold maxLen; omega) (by omega) (by simp; omega) ?_
                             intro v4 w4 hou6 hgrow4 _;have hbr6 : Below o4.heap.size o4 w4 := hbr5b.grown hgrow4 (by simp; omega) (fun j hj => (hou5b.lt j hj).1);have hbD6 := hbD5b.gb hgrow4 (fun e => nDU e.symm);have hF6 := World.ownsRow.kept hF5b hgrow4 apF;have q1' := hbD6.cell 1 rfl;have q1f' := hbD6.frozen 1;obtain ⟨p4, c4, rfl⟩ := ownsRow_shape hou6)
     obtain ⟨y2, hy2⟩ : ∃ y2, y2 = w4.setCell ⟨o4.heap.size + 1, 1, none⟩ (.slice p4 (i + 1 + 1) c4) := ⟨_, rfl⟩;have hgy2 : w4.grownBy y2 (some (o4.heap.size + 1)) := by rw [hy2]; exact gb_set (gb_refl w4 _) 1 _
     have hbD7 : BoxN y2 (o4.heap.size + 1) 43 [.slice pb P.length cb, .slice p4 (i + 1 + 1) c4, .slice p3 (i + 1) c3] := by rw [hy2]; exact hbD6.set 1 _
     have hbr7 : Below o4.heap.size o4 y2 := by rw [hy2]; exact hbr6.setCell (p := ⟨o4.heap.size + 1, 1, none⟩) (by show o4.heap.size <= o4.heap.size + 1; omega) _
     have hou7 := World.ownsRow.kept hou6 hgy2 (.inr (fun e => owns_boxN hou6 hbD6 (by decide) e.symm));have hF7 := World.ownsRow.kept hF6 hgy2 (.inr (fun e => owns_boxN hF6 hbD6 (by decide) e.symm));have hos6 := hos5b.kept hgrow4 (fun x e s n xs he h => owns_apart h hou5b (by rcases he with rfl | rfl <;> decide));have hos7 := hos6.kept hgy2 (fun x e s n xs he h => .inr (fun e' => owns_boxN h hbD6 (by rcases he with rfl | rfl <;> decide) e'.symm));have hR7 : RdQ y2 (.slice p9 P.length c9) Z := FldV.rd (B := o4.heap.size) (by have h1 := hF7; exact h1);have hou8 : y2.ownsRow o4.heap.size 9 1 (.slice p4 (i + 1 + 1) c4) (i + 1 + 1) ((unitTo (i + 1 + 1)).map fun x => Value.string x) := by
      rw [HUN.out, List.map_append];exact hou7
     have hz7 : V.heap.size <= y2.heap.size := by
      have h1 := hgy2.size;have h2 := hgrow4.size;simp at h2;omega
     rw [<- hy2];clear hy2 hgy2 hou7 hF7 hos6 hF6 hou6 hbD6 hgrow4 hbr6 q1' q1f' hou5b hbD5b hbr5b hF5b hos5b nDU apF hou5 hF5 hos5 hbD5 q1 q1f hcv;go_wp2_with fail;go_roundw
     case rel => exact ⟨i + 1, p9, c9, _, _, by go_num, by omega, rfl, by rw [HZE.out]; exact hR7, hou8, by rw [HSE.out]; exact hos7, hbD7, hbr7, hz7⟩
     case measure => simp [RowKit.intOf]; omega
  ·obtain rfl : i = n := by omega
   have hge : ¬ (i : Int) < (i : Int) := by omega
   have cbm := bm.below hbr bm.lt;have cbd := bd.below hbr bd.lt;have g0 := hbD.cell 0 rfl;have g1 := hbD.cell 1 rfl;have g2 := hbD.cell 2 rfl;have r0 := cbm.cell 0 rfl;have r1 := cbm.cell 1 rfl;have r2 := cbd.cell 0 rfl;have r3 := cbd.cell 1 rfl;have r4 := cbd.cell 2 rfl;have rf0 := cbm.frozen 0;have rf1 := cbm.frozen 1;have rf2 := cbd.frozen 0;have rf3 := cbd.frozen 1;have rf4 := cbd.frozen 2;have hz14 := bd.lt;have ne1 : ¬ w.heap.size = o4.heap.size := by omega
   have ne2 : ¬ w.heap.size + 1 = o4.heap.size := by omega
   have ne3 : ¬ w.heap.size + 1 = o2.heap.size := by omega
   have ne4 : ¬ w.heap.size + 2 = o2.heap.size := by omega
   have ne5 : ¬ w.heap.size + 1 + 1 = o2.heap.size := by omega
   have ne6 : ¬ w.heap.size + 1 = o4.heap.size + 1 := by omega
   have ne7 : ¬ w.heap.size + 2 = o4.heap.size + 1 := by omega
   have ne8 : ¬ w.heap.size + 1 + 1 = o4.heap.size + 1 := by omega
   go_upto_region 16 with fail;go_region;all_goals (go_wp2_with fail)
   have hn12 : w.heap.size + 1 + 1 ≠ w.heap.size + 1 := by omega
   have hp9 := RdC.set5m cbm cbd hn12 (RdC.below hp3 hbr) (by intro y hy e; rw [e] at hy; obtain ⟨x, -, hx⟩ := List.mem_flatMap.1 hy; simp at hx) (.slice pp P.length cp) (.slice pt (shapeT k).length ct) (.slice pb P.length cb) (.slice pu (i + 1) cu) (.slice ps (surfTo P.length B H i).length cs);have ht9 := RdC.set5m cbm cbd hn12 (RdC.below ht3 hbr) (by intro y hy e; rw [e] at hy; obtain ⟨x, -, hx⟩ := List.mem_flatMap.1 hy; simp at hx) (.slice pp P.length cp) (.slice pt (shapeT k).length ct) (.slice pb P.length cb) (.slice pu (i + 1) cu) (.slice ps (surfTo P.length B H i).length cs);have hb9 := RdC.set5m cbm cbd hn12 (RdC.below HRB.out hbr) (by intro y hy e; rw [e] at hy; simp at hy) (.slice pp P.length cp) (.slice pt (shapeT k).length ct) (.slice pb P.length cb) (.slice pu (i + 1) cu) (.slice ps (surfTo P.length B H i).length cs);have gA := gb_set (gb_set (gb_refl wr (some (w.heap.size + 1))) 0 (.slice pp P.length cp)) 1 (.slice pt (shapeT k).length ct);have hu1 := World.ownsRow.kept hou gA (.inr (fun e => by have := (hou.lt _ e).1; omega));have hs1 := hos.kept gA (fun x e s n xs _ h => .inr (fun e => by have := (h.lt _ e).1; omega));have gB := gb_set (gb_set (gb_set (gb_refl ((wr.setCell ⟨w.heap.size + 1, 0, none⟩ (.slice pp P.length cp)).setCell ⟨w.heap.size + 1, 1, none⟩ (.slice pt (shapeT k).length ct)) (some (w.heap.size + 1 + 1))) 0 (.slice pb P.length cb)) 1 (.slice pu (i + 1) cu)) 2 (.slice ps (surfTo P.length B H i).length cs);have hu2 := World.ownsRow.kept hu1 gB (.inr (fun e => by have := (hu1.lt _ e).1; omega));have hs2 := hs1.kept gB (fun x e s n xs _ h => .inr (fun e => by have := (h.lt _ e).1; omega));have kA := boxK_far28 (i := 2) (v := .slice ps (surfTo P.length B H i).length cs) (boxK_far28 (i := 1) (v := .slice pu (i + 1) cu) (boxK_far28 (i := 0) (v := .slice pb P.length cb) ((cbm.set 0 (.slice pp P.length cp)).set 1 (.slice pt (shapeT k).length ct)) (Ne.symm hn12)) (Ne.symm hn12)) (Ne.symm hn12);have kB := (((boxK_far28 (i := 1) (v := .slice pt (shapeT k).length ct) (boxK_far28 (i := 0) (v := .slice pp P.length cp) cbd hn12) hn12).set 0 (.slice pb P.length cb)).set 1 (.slice pu (i + 1) cu)).set 2 (.slice ps (surfTo P.length B H i).length cs);have hBL := (((((hBr.setCell (p := ⟨w.heap.size + 1, 0, none⟩) (by show w.heap.size <= w.heap.size + 1; omega) (.slice pp P.length cp)).setCell (p := ⟨w.heap.size + 1, 1, none⟩) (by show w.heap.size <= w.heap.size + 1; omega) (.slice pt (shapeT k).length ct)).setCell (p := ⟨w.heap.size + 1 + 1, 0, none⟩) (by show w.heap.size <= w.heap.size + 1 + 1; omega) (.slice pb P.length cb)).setCell (p := ⟨w.heap.size + 1 + 1, 1, none⟩) (by show w.heap.size <= w.heap.size + 1 + 1; omega) (.slice pu (i + 1) cu)).setCell (p := ⟨w.heap.size + 1 + 1, 2, none⟩) (by show w.heap.size <= w.heap.size + 1 + 1; omega) (.slice ps (surfTo P.length B H i).length cs));have t0 := kA.cell 0 rfl;have t1 := kA.cell 1 rfl;have t2 := kB.cell 0 rfl;have t3 := kB.cell 1 rfl;have t4 := kB.cell 2 rfl;have hu3 := (RdC.of_owns hu2).drewN 1;have h2u : (unitTo (i + 1)).length = i + 1 := by unfold unitTo; simp
   have hs3 := (hs2.below (below_drewN _ 1)).rd;refine bodyPost_ret (v := .tuple #[.agg #[.slice pp P.length cp, .slice pt (shapeT k).length ct], .agg #[.slice pb P.length cb, .slice pu (i + 1) cu, .slice ps (surfTo P.length B H i).length cs]]) (by simp [results, Tryz.results15, go_sem, t0, t1, t2, t3, t4]) rfl ⟨_, rfl, ⟨_, _, _, _, _, rfl, hp9, ht9, hb9, by unfold RdS; rw [h2u]; exact hu3, hs3⟩, hBL.trans ((below_drewN _ 1).mono hBL.size)⟩
end Go.Proofs.YtgdpoankaojklaaGreatDoor
