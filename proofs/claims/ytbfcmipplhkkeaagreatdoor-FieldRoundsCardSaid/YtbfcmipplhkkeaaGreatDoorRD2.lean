import Derived.Test.YtbfcmipplhkkeaaGreatDoorRD1
import Derived.Deep.RegionWith
import Derived.Deep.DeepCutAuto
/- Klipperef01: cut, less; integer.divide. -/
set_option maxHeartbeats 20000000
set_option maxRecDepth 100000
namespace Go.Proofs.YtbfcmipplhkkeaaGreatDoor
open Go.RowKit
theorem Tryz.info_i64 : (Tryz.prog.info? 3).map (fun i => (i.zero, i.size, i.bytes)) = some (some (.int .i64 0), 1, 8) := by kernel_rfl
theorem addr_add (b o j : Nat) : (⟨b, o, none⟩ : Addr).add j = ⟨b, o + j, none⟩ := by
 unfold Addr.add;split
 ·rename_i h; subst h; rfl
 ·rfl
theorem cut4_full (w : World) (v : Value) (l : List Nat) (h : Rd .i64 w v l) :
 Calls Tryz.prog 161 #[v] w (Same (fun v' => Rd .i64 w v' (dropZ l) /\ ∀ n, FreshV n v -> FreshV n v') w) := by
 have h' := h;obtain ⟨p, c, rfl, hc, hm, hr⟩ := h.open;have HH := Lib.hid h';clear h h';have hm' : c <= 9223372036854775807 := hm;go_enter Tryz.func161, Tryz.ntmps161;go_wp2;go_loop [0] (fun t => ∃ n : Nat, n <= l.length /\ t = .slice p n c /\ Hid (dropZ l = dropZ (l.take n))) (fun t => match t with | .slice _ n _ => n | _ => 0)
 case atStart => exact ⟨_, Nat.le_refl _, rfl, by unfold Hid; rw [List.take_length]⟩
 case round =>
  obtain ⟨n, hn, rfl, HD⟩ := hrel;rcases Nat.eq_zero_or_pos n with rfl | hpos
  ·go_wp2
   go_ret;exact ⟨_, rfl, ⟨trim_ex w l p c 0 hn HH.out (by rw [HD.out]; rfl), fun m hF a l' c' e => by cases e; exact hF _ _ _ rfl⟩, rfl⟩
  ·have hne : l ≠ [] := by intro e; subst e; simp at hn; omega
   obtain ⟨b, off, rfl, hlt0, hcell⟩ := hr hne;obtain ⟨m, rfl⟩ : ∃ m, n = m + 1 := ⟨n - 1, by omega⟩;have hlt : m < l.length := by omega
   have hc1 := hcell m hlt;have hT := Lib.hid (List.take_succ_eq_append_getElem hlt);clear hcell hr;by_cases h0 : l[m] = 0
   ·have H0 := Lib.hid h0
    rw [h0] at hc1;clear h0;go_wp2
    go_round
    case rel => exact ⟨m, by omega, rfl, by unfold Hid; rw [HD.out, hT.out, H0.out, dropZ_snoc_zero]⟩
    case measure => simp
   ·have h1 : ((l[m] : Int) == 0) = false := by simpa using h0
    go_wp2;go_ret;exact ⟨_, rfl, ⟨trim_ex w l _ c (m+1) hn HH.out (by rw [HD.out, hT.out, dropZ_snoc_pos _ _ h0]), fun m hF a l' c' e => by cases e; exact hF _ _ _ rfl⟩, rfl⟩
theorem cut4_any (w : World) (v : Value) (l : List Nat) (h : Rd .i64 w v l) :
 Calls Tryz.prog 161 #[v] w (Same (fun v' => Rd .i64 w v' (dropZ l)) w) :=
 (cut4_full w v l h).mono fun _ _ ⟨v', he, hv, hw⟩ => ⟨v', he, hv.1, hw⟩
theorem less_top {a b i : Nat} (hi : i < (lm B4 a).length) (hib : i < (lm B4 b).length) (hd : (lm B4 a).drop (i + 1) = (lm B4 b).drop (i + 1))
 (hlt : (lm B4 a)[i] < (lm B4 b)[i]) : a < b := by
 have := lval_lt_of_top B4 _ _ i (lm_lt B4 a two_le_B4) hi hib hd hlt;rwa [lval_lm _ _ two_le_B4, lval_lm _ _ two_le_B4] at this
theorem less4_any (w : World) (va vb : Value) (a b : Nat) (ha : Rd .i64 w va (lm B4 a)) (hb : Rd .i64 w vb (lm B4 b)) :
 Calls Tryz.prog 162 #[va, vb] w (Drawn (fun v' => v' = .bool (decide (a < b))) w) := by
 obtain ⟨p, c, rfl, hc, hm, hr⟩ := ha.open;obtain ⟨q, d, rfl, hd, hn, hs⟩ := hb.open;clear ha hb;have hm' : c <= 9223372036854775807 := hm;have hn' : d <= 9223372036854775807 := hn;rcases Nat.lt_trichotomy (lm B4 a).length (lm B4 b).length with hl | hl | hl
 ·have HF : Hid (decide (a < b) = true) := by unfold Hid; exact decide_eq_true (lm_lt_of_len B4 a b two_le_B4 hl)
  have h1 : (((lm B4 a).length : Int) != ((lm B4 b).length : Int)) = true := by rw [bne_iff_ne]; omega
  have h2 : decide (((lm B4 a).length : Int) < ((lm B4 b).length : Int)) = true := by simp; omega
  go_enter Tryz.func162, Tryz.ntmps162;go_wp2;go_ret;exact ⟨_, rfl, congrArg Value.bool (show _ = decide (a < b) by first | exact HF.out.symm | (rw [HF.out]; simp; omega)), dr_zero _⟩
 ·have h1 : (((lm B4 a).length : Int) != ((lm B4 b).length : Int)) = false := by rw [bne_eq_false_iff_eq]; omega
  obtain ⟨n, hn0⟩ : ∃ n, (lm B4 a).length = n := ⟨_, rfl⟩;have HA := Lib.hid hn0;have HB := Lib.hid (hl.symm.trans hn0);have hla : (lm B4 a).length <= n := by omega
  have hla' : n <= (lm B4 a).length := by omega
  have hlb : (lm B4 b).length <= n := by omega
  have hlb' : n <= (lm B4 b).length := by omega
  have hnc : n <= c := by omega
  have hnd : n <= d := by omega
  rw [hn0, hl.symm.trans hn0] at h1;rw [hn0, hl.symm.trans hn0];clear hl hn0 hc hd;go_enter Tryz.func162, Tryz.ntmps162;go_wp2;go_loopw [5] (fun t wr => ∃ i : Nat, i <= n /\ t = .int .i64 ((i : Int) - 1) /\ Hid ((lm B4 a).drop i = (lm B4 b).drop i) /\ ∃ j, wr = w.drewN j) (fun t _ => (intOf t + 1).toNat)
  case atStart => exact ⟨n, Nat.le_refl _, rfl, by unfold Hid; rw [List.drop_eq_nil_of_le hla, List.drop_eq_nil_of_le hlb], 0, rfl⟩
  case round =>
   obtain ⟨i, hi, rfl, HD, j, rfl⟩ := hrel;rcases Nat.eq_zero_or_pos i with rfl | hpos
   ·have HE : Hid (a = b) := Lib.hid (lm_inj B4 two_le_B4 (by simpa using HD.out))
    go_wp2;go_ret;exact ⟨_, rfl, congrArg Value.bool (show _ = decide (a < b) by rw [HE.out]; simp), j, rfl⟩
   ·obtain ⟨m, rfl⟩ : ∃ m, i = m + 1 := ⟨i - 1, by omega⟩
    have hlt : m < (lm B4 a).length := by omega
    have hltb : m < (lm B4 b).length := by omega
    obtain ⟨ba, oa, rfl, _, hca⟩ := hr (List.ne_nil_of_length_pos (by omega));obtain ⟨bb, ob, rfl, _, hcb⟩ := hs (List.ne_nil_of_length_pos (by omega));have hc1 := hca m hlt;have hc2 := hcb m hltb;clear hca hcb hr hs;obtain ⟨x, hx⟩ : ∃ x, (lm B4 a)[m] = x := ⟨_, rfl⟩;obtain ⟨y, hy⟩ : ∃ y, (lm B4 b)[m] = y := ⟨_, rfl⟩;rw [hx] at hc1;rw [hy] at hc2;have HX := Lib.hid hx;have HY := Lib.hid hy;clear hx hy;have e1 : ((m + 1 : Nat) : Int) - 1 = (m : Int) := by omega
    rw [e1];clear e1;have f1 : (0 : Int) <= (m : Int) := by omega
    have f2 : (m : Int) < (n : Int) := by omega
    rcases Nat.lt_trichotomy x y with hxy | hxy | hxy
    ·have t1 : ((x : Int) != (y : Int)) = true := by rw [bne_iff_ne]; omega
     have t2 : decide ((x : Int) < (y : Int)) = true := by simp; omega
     have HF : Hid (decide (a < b) = true) := by unfold Hid; exact decide_eq_true (less_top hlt hltb HD.out (by rw [HX.out, HY.out]; exact hxy))
     go_wp2_with fail;go_quiet (fail);go_wp2_with fail;go_quiet (fail);go_wp2;go_ret;exact ⟨_, rfl, congrArg Value.bool (show _ = decide (a < b) by first | exact HF.out.symm | (rw [HF.out]; simp; omega)), dr_step (dr_step ⟨j, rfl⟩ _) _⟩
    ·subst hxy
     have t1 : ((x : Int) != (x : Int)) = false := by simp
     go_wp2_with fail;go_quiet (fail);go_wp2;go_roundw
     case rel => exact ⟨m, by omega, rfl, by unfold Hid; exact drop_step hlt hltb HD.out (by rw [HX.out, HY.out]), _, rfl⟩
     case measure => simp [intOf]
    ·have t1 : ((x : Int) != (y : Int)) = true := by rw [bne_iff_ne]; omega
     have t2 : decide ((x : Int) < (y : Int)) = false := by simp; omega
     have HF : Hid (decide (a < b) = false) := by
      unfold Hid;have := less_top hltb hlt HD.out.symm (by rw [HX.out, HY.out]; exact hxy);exact decide_eq_false (by omega)
     go_wp2_with fail;go_quiet (fail);go_wp2_with fail;go_quiet (fail);go_wp2;go_ret;exact ⟨_, rfl, congrArg Value.bool (show _ = decide (a < b) by first | exact HF.out.symm | (rw [HF.out]; simp; omega)), dr_step (dr_step ⟨j, rfl⟩ _) _⟩
 ·have HF : Hid (decide (a < b) = false) := by
   unfold Hid;have := lm_lt_of_len B4 b a two_le_B4 hl;exact decide_eq_false (by omega)
  have h1 : (((lm B4 a).length : Int) != ((lm B4 b).length : Int)) = true := by rw [bne_iff_ne]; omega
  have h2 : decide (((lm B4 a).length : Int) < ((lm B4 b).length : Int)) = false := by simp; omega
  go_enter Tryz.func162, Tryz.ntmps162;go_wp2;go_ret;exact ⟨_, rfl, congrArg Value.bool (show _ = decide (a < b) by first | exact HF.out.symm | (rw [HF.out]; simp; omega)), dr_zero _⟩
open Go.Shelf
theorem foldD_zero (xs : List Nat) (b k j : Nat) (hj : j < xs.length - k) : (foldD xs b (bwd xs.length k)).1[j]?.getD 0 = 0 := by
 induction k with
 | zero => simp [bwd, foldD, List.getElem?_replicate]; split <;> rfl
 | succ k ih =>
   rw [bwd_succ, foldD_snoc];unfold stepD;simp only;rw [List.getElem?_set_ne (by omega)];exact ih (by omega)
theorem foldD_all2 {a b : Nat} (hb : 0 < b) :
 dropZ (foldD (lm B9 a) b (bwd (lm B9 a).length (lm B9 a).length)).1 = lm B9 (a / b) /\ (foldD (lm B9 a) b (bwd (lm B9 a).length (lm B9 a).length)).2 = a % b := by
 have hx := lm_lt B9 a two_le_B9;obtain ⟨h1, h2, h3⟩ := foldD_inv hx hb (bwd (lm B9 a).length (lm B9 a).length);have h4 := foldD_val hx hb (lm B9 a).length (Nat.le_refl _);rw [Nat.sub_self, List.drop_zero, List.drop_zero, lval_lm B9 a two_le_B9] at h4;generalize foldD (lm B9 a) b (bwd (lm B9 a).length (lm B9 a).length) = s at *;have e1 : a / b = lval B9 s.1 := by rw [h4, Nat.mul_add_div hb, Nat.div_eq_of_lt h3, Nat.add_zero]
 have e2 : a % b = s.2 := by rw [h4, Nat.mul_add_mod_self_left, Nat.mod_eq_of_lt h3]
 rw [e1, e2];exact ⟨dropZ_eq B9 two_le_B9 _ h2, rfl⟩
theorem guess_ge {B b r bt rt m : Nat} (hb : bt * B ^ m <= b) (hr : r < (rt + 1) * B ^ m) (hbt : 0 < bt) : r / b <= rt / bt := by
 have hP : 0 < B ^ m := by
  rcases Nat.eq_zero_or_pos (B ^ m) with h | h
  ·rw [h] at hr; simp at hr
  ·exact h
 rw [Nat.le_div_iff_mul_le hbt];have h1 : r / b * b <= r := Nat.div_mul_le_self r b;have h2 : r / b * (bt * B ^ m) <= r / b * b := Nat.mul_le_mul_left _ hb;have h3 : r / b * bt * B ^ m < (rt + 1) * B ^ m := by rw [Nat.mul_assoc]; omega
 have := Nat.lt_of_mul_lt_mul_right h3;omega
theorem lm_top (n : Nat) (k : Nat) (h : (lm B9 n).length = k + 1) (hk : k < (lm B9 n).length) : (lm B9 n)[k] * B9 ^ k <= n /\ n < ((lm B9 n)[k] + 1) * B9 ^ k /\ 0 < (lm B9 n)[k] := by
 have e : lm B9 n = (lm B9 n).take k ++ [(lm B9 n)[k]] := by
  conv => lhs; rw [<- List.take_append_drop k (lm B9 n)]
  rw [List.drop_eq_getElem_cons hk, List.drop_eq_nil_of_le (by omega)]
 have hv := lval_lm B9 n two_le_B9;have hlt : lval B9 ((lm B9 n).take k) < B9 ^ k := by
  have := lval_lt B9 ((lm B9 n).take k) (fun x hx => lm_lt B9 n two_le_B9 x (List.mem_of_mem_take hx));rwa [List.length_take, Nat.min_eq_left (by omega)] at this
 have h2 : lval B9 (lm B9 n) = lval B9 ((lm B9 n).take k) + (lm B9 n)[k] * B9 ^ k := by
  conv => lhs; rw [e]
  rw [lval_snoc, List.length_take, Nat.min_eq_left (by omega)]
 rw [hv] at h2;refine ⟨by omega, by rw [Nat.add_mul]; omega, ?_⟩;rcases Nat.eq_zero_or_pos (lm B9 n)[k] with h0 | h0
 ·rw [h0] at e; exact absurd e (lm_last B9 n two_le_B9 _)
 ·exact h0
theorem lm_drop_lt (n k : Nat) : n < (lval B9 ((lm B9 n).drop k) + 1) * B9 ^ k := by
 have hv := lval_lm B9 n two_le_B9;rcases Nat.lt_or_ge k (lm B9 n).length with hk | hk
 ·have hlt : lval B9 ((lm B9 n).take k) < B9 ^ k := by
   have := lval_lt B9 ((lm B9 n).take k) (fun x hx => lm_lt B9 n two_le_B9 x (List.mem_of_mem_take hx));rwa [List.length_take, Nat.min_eq_left (by omega)] at this
  have h2 : lval B9 (lm B9 n) = lval B9 ((lm B9 n).take k) + B9 ^ k * lval B9 ((lm B9 n).drop k) := by
   conv => lhs; rw [<- List.take_append_drop k (lm B9 n)]
   rw [lval_append, List.length_take, Nat.min_eq_left (by omega)]
  rw [hv] at h2;rw [Nat.add_mul, Nat.mul_comm (lval B9 _)];omega
 ·rw [List.drop_eq_nil_of_le hk]
  have := lm_len_lt B9 n two_le_B9;have h3 : B9 ^ (lm B9 n).length <= B9 ^ k := Nat.pow_le_pow_right (by decide) hk;simp [lval]; omega
theorem drop_two {l : List Nat} {k : Nat} (h : l.length = k + 2) : l.drop k = [l[k]'(by omega), l[k + 1]'(by omega)] := by
 rw [List.drop_eq_getElem_cons (by omega), List.drop_eq_getElem_cons (by omega), List.drop_eq_nil_of_le (by omega)]
theorem drop_one' {l : List Nat} {k : Nat} (h : l.length = k + 1) : l.drop k = [l[k]'(by omega)] := by
 rw [List.drop_eq_getElem_cons (by omega), List.drop_eq_nil_of_le (by omega)]
theorem Arr.below {k : IntKind} {w w' : World} {g E : Nat} {o : List Nat} (h : Arr k w g E o) (hb : Below w.heap.size w w') : Arr k w' g E o :=
 (hb.block g h.lt).trans h
theorem RdC.set_fresh {sz g i : Nat} {w : World} {v : Value} {n : Nat} {cs : List Value} (h : RdC sz w v n cs) (hf : FreshV (g + 1) v) (u : Value) : RdC sz (w.setCell ⟨g, i, none⟩ u) v n cs := by
 obtain ⟨p, c, hv, h1, h2, h3, h4⟩ := h;refine ⟨p, c, hv, h1, h2, h3, fun hne => ?_⟩;obtain ⟨b, off, hp, hc⟩ := h4 hne;refine ⟨b, off, hp, fun j x hx => ?_⟩;have hb : g + 1 <= b := hf ⟨b, off, none⟩ n c (by rw [hv, hp]);rw [World.cell?_setCell_other _ _ _ _ (by simp only [ne_eq, Addr.mk.injEq, not_and]; omega)];exact hc j x hx
theorem set_zero (q : List Nat) (i : Nat) (h : q[i]?.getD 0 = 0) : q.set i 0 = q := by
 apply List.ext_getElem?;intro j;rw [List.getElem?_set];split
 ·rename_i e; subst e
  split
  ·rename_i hl; rw [List.getElem?_eq_getElem hl] at *; simp only [Option.getD_some] at h; rw [h]
  ·rename_i hl; rw [List.getElem?_eq_none (by omega)]
 ·rfl
theorem divide_small (w : World) (va vb : Value) (a b : Nat) (ha : Rd .u64 w va (lm B9 a)) (hb : Rd .u64 w vb [b]) (hb0 : 0 < b) (hb9 : b < B9) (hlen : (lm B9 a).length <= 1000000) :
 Calls Tryz.prog 156 #[va, vb] w (Ret (QR (a / b) (a % b)) w) := by
 have hlb : lm B9 b = [b] := by
  have := (dropZ_eq B9 two_le_B9 [b] (by intro y hy; simp at hy; omega)).symm;simp only [lval, Nat.mul_zero, Nat.add_zero] at this;rw [this, <- List.nil_append [b], dropZ_snoc_pos _ _ (by omega)]
 rw [<- hlb] at hb;rcases Nat.lt_or_ge a b with h | h
 ·exact divide_less w va vb a b ha hb h
 ·exact divide_one w va vb a b ha hb h hb0 hb9 hlen
theorem divide_more (w : World) (va vb : Value) (a b : Nat) (ha : Rd .u64 w va (lm B9 a)) (hb : Rd .u64 w vb (lm B9 b)) (hab : b <= a) (hb9 : B9 <= b) (hlen : (lm B9 a).length <= 900000) :
 Calls Tryz.prog 156 #[va, vb] w (Ret (QR (a / b) (a % b)) w) := by
 obtain ⟨cz, hcz⟩ : ∃ cz, cz = cmpN a b := ⟨_, rfl⟩;have hcz0 : ¬ cz < 0 := by rw [hcz]; unfold cmpN; split; omega; split <;> omega
 have hlb : 2 <= (lm B9 b).length := by
  rcases Nat.lt_or_ge (lm B9 b).length 2 with h | h
  ·have := lm_len_lt B9 b two_le_B9
   have h2 : B9 ^ (lm B9 b).length <= B9 ^ 1 := Nat.pow_le_pow_right (by decide) (by omega);rw [Nat.pow_one] at h2;omega
  ·exact h
 have hlb2 : (lm B9 b).length <= (lm B9 a).length := by
  rcases Nat.lt_or_ge (lm B9 a).length (lm B9 b).length with h | h
  ·have := lm_lt_of_len B9 a b two_le_B9 h
   omega
  ·exact h
 obtain ⟨p, c, rfl, hc, hm, hr⟩ := ha.open;obtain ⟨q, d, rfl, hd, hm2, hs⟩ := hb.open;have hne : lm B9 b ≠ [] := List.ne_nil_of_length_pos (by omega);obtain ⟨bb, ob, rfl, hbl, hbc⟩ := hs hne;have htop := hbc ((lm B9 b).length - 1) (by omega);have htl : (lm B9 b)[(lm B9 b).length - 1] < B9 := lm_lt B9 b two_le_B9 _ (List.getElem_mem _);obtain ⟨tz, htz⟩ : ∃ tz : Int, tz = ((lm B9 b)[(lm B9 b).length - 1] : Nat) := ⟨_, rfl⟩;rw [<- htz] at htop;have htp : 0 < (lm B9 b)[(lm B9 b).length - 1] := by
  rcases Nat.eq_zero_or_pos (lm B9 b)[(lm B9 b).length - 1] with h0 | h0
  ·refine absurd ?_ (lm_last B9 b two_le_B9 ((lm B9 b).take ((lm B9 b).length - 1)))
   conv => lhs; rw [<- List.take_append_drop ((lm B9 b).length - 1) (lm B9 b)]
   rw [List.drop_eq_getElem_cons (by omega), h0, List.drop_eq_nil_of_le (by omega)]
  ·exact h0
 have hB9 : B9 = 1000000000 := rfl;have htz0 : 1 <= tz /\ tz < 1000000000 := by omega
 obtain ⟨f, hf⟩ : ∃ f : Nat, f = B9 / ((lm B9 b)[(lm B9 b).length - 1] + 1) := ⟨_, rfl⟩;obtain ⟨fz, hfz⟩ : ∃ fz : Int, fz = 1000000000 / (tz + 1) := ⟨_, rfl⟩;have hff : fz = (f : Int) := by rw [hfz, hf, htz]; push_cast; rfl
 have hf1 : 1 <= f /\ f <= 500000000 := by
  rw [hf];refine ⟨Nat.div_pos (by omega) (by omega), ?_⟩;exact Nat.le_trans (Nat.div_le_div_left (show 2 <= _ by omega) (by decide)) (by decide)
 have hf0 : 1 <= fz /\ fz <= 500000000 := by omega
 have hf9 : f < B9 := by omega
 have HF := Lib.hid hff;have HTZ := Lib.hid htz;have HCZ := Lib.hid hcz;have HA := Lib.hid ha;have HB := Lib.hid hb;clear hB9 htz hcz hs hbc ha hb;go_enter Tryz.func156, Tryz.ntmps156;go_wp2_with fail;refine (order_any _ _ _ a b ((HA.out.alloc _).alloc _) ((HB.out.alloc _).alloc _)).mono ?_;rintro e w1 ⟨_, rfl, rfl, j, rfl⟩;rw [<- HCZ.out];go_wp2_with fail;rw [<- hfz];clear hff hf hfz;generalize hW : ((w.alloc (Obj.cells #[Value.slice (some ⟨bb, ob, none⟩) (lm B9 b).length d] 207)).alloc (Obj.cells #[Value.slice none 0 0] 207)).drewN j = W;have hWs : W.heap.size = w.heap.size + 2 := by rw [<- hW]; simp
 have hWb : Below w.heap.size w W := by
  rw [<- hW];exact ((((Below.refl _ w).alloc (Nat.le_refl _) _).alloc (by simp) _).trans (below_drewN _ j |>.mono (by simp; omega)))
 have w0 : W.cell? ⟨w.heap.size, 0, none⟩ = some (.slice (some ⟨bb, ob, none⟩) (lm B9 b).length d) := by
  rw [<- hW, World.cell?_drewN, World.cell?_alloc_past _ _ _ (by simp), World.cell?_alloc_at _ _ _ _ rfl]; rfl
 have w0f : W.frozen? ⟨w.heap.size, 0, none⟩ = false := by
  rw [<- hW]; exact frozen_alloc_l (v := .slice (some ⟨bb, ob, none⟩) (lm B9 b).length d) _ (by rw [World.cell?_alloc_at _ _ _ _ rfl]; rfl) (World.frozen?_alloc_at _ _ _ _ rfl)
 have w1 : W.cell? ⟨w.heap.size + 1, 0, none⟩ = some (.slice none 0 0) := by
  rw [<- hW, World.cell?_drewN, World.cell?_alloc_at _ _ _ _ (by simp)]; rfl
 have w1f : W.frozen? ⟨w.heap.size + 1, 0, none⟩ = false := by
  rw [<- hW]; exact World.frozen?_alloc_at _ _ _ _ (by simp)
 have wa := RdC.below HA.out hWb;have wb := RdC.below HB.out hWb;have HWA := Lib.hid wa;have HWB := Lib.hid wb;clear hW wa wb;go_cut [0] (fun s0 wx => Rd .u64 wx s0 (lm B9 (a * f)) /\ (∃ v, wx.cell? ⟨w.heap.size, 0, none⟩ = some v /\ Rd .u64 wx v (lm B9 (b * f))) /\ wx.frozen? ⟨w.heap.size, 0, none⟩ = false
  /\ wx.cell? ⟨w.heap.size + 1, 0, none⟩ = some (.slice none 0 0) /\ wx.frozen? ⟨w.heap.size + 1, 0, none⟩ = false /\ Below w.heap.size w wx /\ w.heap.size + 2 <= wx.heap.size)
 case first =>
  have HWAd : Hid (Rd .u64 W.drew (.slice p (lm B9 a).length c) (lm B9 a)) := HWA.out;have HWBd : Hid (Rd .u64 W.drew (.slice (some ⟨bb, ob, none⟩) (lm B9 b).length d) (lm B9 b)) := HWB.out
  go_region_with (first
   | (go_at_call 204; refine (small_any _ _ a f fz HF.out HWAd.out (by omega) hf9).mono ?_; rintro e w9 ⟨v9, rfl, hv9, hb9'⟩
      have y0 := zcq hb9' (by show w.heap.size < W.heap.size; omega) w0;have y0f := (hb9'.frozen (p := ⟨w.heap.size, 0, none⟩) (by show w.heap.size < W.heap.size; omega)).trans w0f;obtain ⟨p9, c9, rfl, hc9, hm9, hr9⟩ := hv9.open)
   | (go_at_call 204; refine (small_any _ _ b f fz HF.out (RdC.below HWBd.out hb9') (by omega) hf9).mono ?_; rintro e w10 ⟨v10, rfl, hv10, hb10⟩
      have hsz9 := hb9'.size;have z0 := zcq hb10 (by show w.heap.size < w9.heap.size; have : W.drew.heap.size = W.heap.size := rfl; omega) y0;have z0f := (hb10.frozen (p := ⟨w.heap.size, 0, none⟩) (by show w.heap.size < w9.heap.size; have : W.drew.heap.size = W.heap.size := rfl; omega)).trans y0f;obtain ⟨p10, c10, rfl, hc10, hm10, hr10⟩ := hv10.open))
  all_goals
   have hszd : W.drew.heap.size = W.heap.size := rfl;have q1 := (hb10.cell (p := ⟨w.heap.size + 1, 0, none⟩) (by show w.heap.size + 1 < w9.heap.size; omega)).trans ((zcq hb9' (by show w.heap.size + 1 < W.heap.size; omega) w1 :));have q1f := (hb10.frozen (p := ⟨w.heap.size + 1, 0, none⟩) (by show w.heap.size + 1 < w9.heap.size; omega)).trans ((hb9'.frozen (p := ⟨w.heap.size + 1, 0, none⟩) (by show w.heap.size + 1 < W.heap.size; omega)).trans w1f);have hsz10 := hb10.size;have hB : Below w.heap.size w (w10.setCell ⟨w.heap.size, 0, none⟩ (.slice p10 (lm B9 (b * f)).length c10)) :=
    ((hWb.trans (((below_drewN W 1).mono (show w.heap.size <= W.heap.size by omega)).trans ((hb9'.trans (hb10.mono hsz9)).mono (show w.heap.size <= W.heap.size by omega)))).setCell (Nat.le_refl _) _)
   go_wp2_with fail;go_meet;refine ⟨RdC.set_other (RdC.below hv9 hb10) z0 (by simp), ⟨_, World.cell?_setCell_same' _ _ _ (by rw [z0]; rfl), RdC.set_other hv10 z0 (by simp)⟩, ?_, ?_, ?_, hB, ?_⟩
   ·rw [World.frozen?_setCell]; exact z0f
   ·rw [World.cell?_setCell_other _ _ _ _ (by simp), q1]
   ·rw [World.frozen?_setCell]; exact q1f
   ·show w.heap.size + 2 <= (w10.setCell _ _).heap.size
    simp [World.setCell]; omega
 case rest =>
  obtain ⟨hs0, ⟨vb, hvb, hrb⟩, hvbf, hc1, hc1f, hbw, hsz⟩ := hcut;clear hr htop hWb w0 w0f w1 w1f;have HVBR := Lib.hid hrb;have HS0 := Lib.hid hs0;obtain ⟨pa, ca, rfl, hca, hma, hra⟩ := hs0.open;obtain ⟨pb, cb, rfl, hcb, hmb, hrb'⟩ := hrb.open;clear hs0 hrb;have hf1' : 0 < f := hf1.1;have hbf : B9 <= b * f := Nat.le_trans hb9 (Nat.le_mul_of_pos_right b hf1');have habf : b * f <= a * f := Nat.mul_le_mul_right f hab;have hB1 : (1 : Nat) < B9 := by decide
  have hlxs : (lm B9 (a * f)).length <= 900001 := by
   refine Nat.le_trans (lm_len_le B9 (a * f) ((lm B9 a).length + 1) two_le_B9 ?_) (by omega);have h1 := lm_len_lt B9 a two_le_B9;rw [Nat.pow_succ];exact Nat.mul_lt_mul_of_lt_of_le h1 (Nat.le_of_lt hf9) (by decide)
  have hlys : 2 <= (lm B9 (b * f)).length := by
   rcases Nat.lt_or_ge (lm B9 (b * f)).length 2 with h | h
   ·have := lm_len_lt B9 (b * f) two_le_B9
    have h2 : B9 ^ (lm B9 (b * f)).length <= B9 ^ 1 := Nat.pow_le_pow_right (by decide) (by omega);rw [Nat.pow_one] at h2;omega
   ·exact h
  have hlyx : (lm B9 (b * f)).length <= (lm B9 (a * f)).length := by
   rcases Nat.lt_or_ge (lm B9 (a * f)).length (lm B9 (b * f)).length with h | h
   ·have := lm_lt_of_len B9 (a * f) (b * f) two_le_B9 h
    omega
   ·exact h
  have hbf0 : 0 < b * f := by omega
  have HDIV : Hid (a * f / (b * f) = a / b /\ a * f % (b * f) = a % b * f) := ⟨Nat.mul_div_mul_right a b hf1', Nat.mul_mod_mul_right f a b⟩;have HALL := Lib.hid (foldD_all2 (a := a * f) hbf0);have HINV := Lib.hid (fun pre => foldD_inv (lm_lt B9 (a * f) two_le_B9) hbf0 pre);have HZ := Lib.hid (foldD_zero (lm B9 (a * f)) (b * f));have HQL : Hid (∀ k q r, (q, r) = foldD (lm B9 (a * f)) (b * f) (bwd (lm B9 (a * f)).length k) -> q.length = (lm B9 (a * f)).length) := by
   intro k q r e;have := (HINV.out (bwd (lm B9 (a * f)).length k)).1;rw [<- e] at this;exact this
  have HLT := Lib.hid (lm_lt B9 (a * f) two_le_B9);obtain ⟨ky, hky⟩ : ∃ ky, (lm B9 (b * f)).length = ky + 1 := ⟨(lm B9 (b * f)).length - 1, by omega⟩;have hkyl : ky < (lm B9 (b * f)).length := by omega
  have htopf := lm_top (b * f) ky hky hkyl;have hmk := run_make_u64 (lm B9 (a * f)).length (by omega) wc;obtain ⟨bY, oY, rfl, hblY, hcY⟩ := hrb' (List.ne_nil_of_length_pos (by omega));have hcTop := hcY ky hkyl;have hty : (lm B9 (b * f))[ky] < B9 := lm_lt B9 (b * f) two_le_B9 _ (List.getElem_mem _);obtain ⟨ty, hty0⟩ : ∃ ty : Int, ty = ((lm B9 (b * f))[ky] : Nat) := ⟨_, rfl⟩;rw [<- hty0] at hcTop;have hty1 : 1 <= ty /\ ty < 1000000000 := by
   have := htopf.2.2;have hB9 : B9 = 1000000000 := rfl;omega
  have HTY := Lib.hid hty0;have HTOP := Lib.hid htopf;clear hrb' hcY hty hty0 htopf;have y1 : (wc.alloc (.cells (zeros (lm B9 (a * f)).length) 235)).cell? ⟨w.heap.size + 1, 0, none⟩ = some (.slice none 0 0) := cell_alloc_l _ hc1;have y1f : (wc.alloc (.cells (zeros (lm B9 (a * f)).length) 235)).frozen? ⟨w.heap.size + 1, 0, none⟩ = false := frozen_alloc_l _ hc1 hc1f;have y2 : (wc.alloc (.cells (zeros (lm B9 (a * f)).length) 235)).cell? ⟨w.heap.size, 0, none⟩ = some (.slice (some ⟨bY, oY, none⟩) (lm B9 (b * f)).length cb) := cell_alloc_l _ hvb;have y3 : ((wc.alloc (.cells (zeros (lm B9 (a * f)).length) 235)).setCell ⟨w.heap.size + 1, 0, none⟩ (.slice (some ⟨wc.heap.size, 0, none⟩) (lm B9 (a * f)).length (lm B9 (a * f)).length)).cell? ⟨bY, oY + ky, none⟩ = some (.int .u64 ty) := by
   rw [World.cell?_setCell_other _ _ _ _ (fun e => by rw [<- e, hc1] at hcTop; cases hcTop)];exact cell_alloc_l _ hcTop
  go_wp2_with fail;generalize hW2 : (wc.alloc (.cells (zeros (lm B9 (a * f)).length) 235)).setCell ⟨w.heap.size + 1, 0, none⟩ (.slice (some ⟨wc.heap.size, 0, none⟩) (lm B9 (a * f)).length (lm B9 (a * f)).length) = W2 at *;have z0 : W2.cell? ⟨w.heap.size, 0, none⟩ = some (.slice (some ⟨bY, oY, none⟩) (lm B9 (b * f)).length cb) := by
   rw [<- hW2, World.cell?_setCell_other _ _ _ _ (by simp)]; exact y2
  have z1 : W2.cell? ⟨w.heap.size + 1, 0, none⟩ = some (.slice (some ⟨wc.heap.size, 0, none⟩) (lm B9 (a * f)).length (lm B9 (a * f)).length) := by
   rw [<- hW2]; exact World.cell?_setCell_same' _ _ _ (by rw [y1]; rfl)
  have z1f : W2.frozen? ⟨w.heap.size + 1, 0, none⟩ = false := by rw [<- hW2, World.frozen?_setCell]; exact y1f
  have zA : Arr .u64 W2 wc.heap.size 235 (List.replicate (lm B9 (a * f)).length 0) := by
   rw [<- hW2];unfold Arr;rw [heap_setCell_other _ _ _ _ (by simp; omega)];exact heap_alloc_new _ _
  have zX : Rd .u64 W2 (.slice pa (lm B9 (a * f)).length ca) (lm B9 (a * f)) := by
   rw [<- hW2]; exact RdC.set_other (RdC.alloc HS0.out _) y1 (by simp)
  have zY : Rd .u64 W2 (.slice (some ⟨bY, oY, none⟩) (lm B9 (b * f)).length cb) (lm B9 (b * f)) := by
   rw [<- hW2]; exact RdC.set_other (RdC.alloc HVBR.out _) y1 (by simp)
  have zB : Below w.heap.size w W2 := by
   rw [<- hW2]; exact (hbw.alloc (by omega) _).setCell (by simp) _
  have zs : W2.heap.size = wc.heap.size + 1 := by rw [<- hW2]; simp [World.setCell]
  have oX : OldV wc.heap.size (.slice pa (lm B9 (a * f)).length ca) := RdC.old HS0.out (by intro e; have e2 := congrArg List.length e; rw [List.length_map] at e2; simp only [List.length_nil] at e2; omega);have oY' : OldV wc.heap.size (.slice (some ⟨bY, oY, none⟩) (lm B9 (b * f)).length cb) := RdC.old HVBR.out (by intro e; have e2 := congrArg List.length e; rw [List.length_map] at e2; simp only [List.length_nil] at e2; omega);generalize hg : wc.heap.size = g at *;have HX := Lib.hid zX;have HY := Lib.hid zY;have HOX := Lib.hid oX;have HOY := Lib.hid oY';clear hW2 y1 y1f y2 y3 hvb hvbf hc1 hc1f hcTop hmk zX zY oX oY' HS0 HVBR HWA HWB;have HKY := Lib.hid hky;clear hky;go_loopw [5, 11] (fun t5 t11 wr => ∃ (k : Nat) (q : List Nat) (r : Nat) (iz : Int), k <= (lm B9 (a * f)).length /\ t11 = .int .i64 iz /\ Hid (iz = ((lm B9 (a * f)).length : Int) - 1 - k) /\ Hid ((q, r) = foldD (lm B9 (a * f)) (b * f) (bwd (lm B9 (a * f)).length k))
   /\ Rd .u64 wr t5 (lm B9 r) /\ FreshV (g + 1) t5 /\ Arr .u64 wr g 235 q /\ Below g W2 wr /\ g + 1 <= wr.heap.size) (fun _ t11 _ => (intOf t11 + 1).toNat)
  case atStart =>
   refine ⟨0, _, 0, _, Nat.zero_le _, rfl, ?_, rfl, by rw [lm_zero]; exact RdC.nil0 _ _, (by intro a l c e; cases e), zA, Below.refl _ _, by omega⟩;unfold Hid; omega
  case round =>
   obtain ⟨k, q, r, iz, hk, rfl, hiz, HFD, hr5, hf5, harr, hB2, hwr⟩ := hrel;have hrB : r < b * f := by
    have := (HINV.out (bwd (lm B9 (a * f)).length k)).2.2;rw [<- HFD.out] at this;exact this
   have hrl : (lm B9 r).length <= (lm B9 (b * f)).length := lm_len_le B9 r _ two_le_B9 (Nat.lt_trans hrB (lm_len_lt B9 (b * f) two_le_B9));have hiz1 : iz < 1000000 := by have := hiz.out; omega
   obtain ⟨p5, c5, rfl, hc5, hm5, hr5'⟩ := hr5.open;have HR5 := Lib.hid hr5;clear hr5;rcases (by omega : iz < 0 \/ 0 <= iz) with hneg | hge
   ·have hkn : k = (lm B9 (a * f)).length := by have := hiz.out; omega
    have HQR : Hid (dropZ q = lm B9 (a / b) /\ r / f = a % b) := by
     obtain ⟨e1, e2⟩ := HALL.out;have e3 := HFD.out;rw [hkn] at e3;rw [<- e3] at e1 e2;simp only at e1 e2;rw [HDIV.out.1] at e1;rw [HDIV.out.2] at e2;exact ⟨e1, by rw [e2, Nat.mul_div_cancel _ hf1']⟩
    have hone : Rd .u64 (wr.alloc (.cells #[.int .u64 fz] 235)) (.slice (some ⟨wr.heap.size, 0, none⟩) 1 1) [f] :=
     rd_one _ _ f fz HF.out (by rw [World.cell?_alloc_at _ _ _ _ rfl]; rfl)
    go_wp2_with fail;refine (divide_small _ _ _ r f (RdC.alloc HR5.out _) hone hf1' hf9 (by omega)).mono ?_;rintro e w5 ⟨_, rfl, ⟨vq, vr, rfl, hq5, hr6⟩, hb5⟩;rw [HQR.out.2] at hq5;obtain ⟨p6, c6, rfl, hc6, hm6, hr7⟩ := hq5.open;have HQ5 := Lib.hid hq5;clear hq5 hr7 hr6;have hszA : (wr.alloc (.cells #[.int .u64 fz] 235)).heap.size = wr.heap.size + 1 := by simp
    have v1 : w5.cell? ⟨w.heap.size + 1, 0, none⟩ = some (.slice (some ⟨g, 0, none⟩) (lm B9 (a * f)).length (lm B9 (a * f)).length) :=
     (hb5.cell (p := ⟨w.heap.size + 1, 0, none⟩) (by rw [hszA]; show w.heap.size + 1 < _; omega)).trans (cell_alloc_l _ ((zcq hB2 (show w.heap.size + 1 < g by omega) z1 :)))
    have v1f : w5.frozen? ⟨w.heap.size + 1, 0, none⟩ = false :=
     (hb5.frozen (p := ⟨w.heap.size + 1, 0, none⟩) (by rw [hszA]; show w.heap.size + 1 < _; omega)).trans (frozen_alloc_l _ ((zcq hB2 (show w.heap.size + 1 < g by omega) z1 :)) ((hB2.frozen (p := ⟨w.heap.size + 1, 0, none⟩) (show w.heap.size + 1 < g by omega)).trans z1f))
    have hql : q.length = (lm B9 (a * f)).length := by
     have := (HINV.out (bwd (lm B9 (a * f)).length k)).1;rw [<- HFD.out] at this;exact this
    have hRq : Rd .u64 w5 (.slice (some ⟨g, 0, none⟩) (lm B9 (a * f)).length (lm B9 (a * f)).length) q := by
     have h1 := harr.rd (by rw [hql]; unfold maxLen; omega);rw [hql] at h1;exact RdC.below (RdC.alloc h1 _) hb5
    have HRQ := Lib.hid hRq;clear hRq;go_wp2_with (first | (go_at_call 202; refine (trim_any _ _ _ HRQ.out).mono ?_; rintro e w6 ⟨v6, rfl, hv6, rfl⟩; obtain ⟨p7, c7, rfl, hc7, hm7, hr7⟩ := hv6.open; clear hr7));rw [HQR.out.1] at *;have hcell : (w5.setCell ⟨w.heap.size + 1, 0, none⟩ (.slice p7 (lm B9 (a / b)).length c7)).cell? ⟨w.heap.size + 1, 0, none⟩ = some (.slice p7 (lm B9 (a / b)).length c7) := World.cell?_setCell_same' _ _ _ (by rw [v1]; rfl);refine bodyPost_ret (v := .tuple #[.slice p7 (lm B9 (a / b)).length c7, .slice p6 (lm B9 (a % b)).length c6]) (by simp [results, Tryz.results156, go_sem, hcell]) rfl ?_;refine ⟨_, rfl, ⟨_, _, rfl, RdC.set_other hv6 v1 (by simp), RdC.set_other HQ5.out v1 (by simp)⟩, ?_⟩;exact ((zB.trans (hB2.mono (show w.heap.size <= g by omega))).trans ((((Below.refl _ wr).alloc (Nat.le_refl _) _).trans (hb5.mono (by rw [hszA]; omega))).mono (by have := hB2.size; omega))).setCell (by simp) _
   ·obtain ⟨i, hi⟩ : ∃ i : Nat, (i : Int) = iz := ⟨iz.toNat, by omega⟩
    subst hi;have hil : i < (lm B9 (a * f)).length := by have := hiz.out; omega
    have hXr : Rd .u64 wr (.slice pa (lm B9 (a * f)).length ca) (lm B9 (a * f)) := RdC.belowB HX.out hB2 HOX.out;have HXR := Lib.hid hXr;clear hXr;have hne2 : lm B9 (a * f) ≠ [] := List.ne_nil_of_length_pos (by omega);obtain ⟨px, cx, epx, hcx, hmx, hxx⟩ := HXR.out.open;obtain ⟨bX, oX, epX, hblX, hcX⟩ := hxx hne2;cases epx;subst epX;have hcx0 := hcX i hil;have hx9 : (lm B9 (a * f))[i] < B9 := lm_lt B9 (a * f) two_le_B9 _ (List.getElem_mem hil);obtain ⟨xz, hxz⟩ : ∃ xz : Int, xz = ((lm B9 (a * f))[i] : Nat) := ⟨_, rfl⟩;rw [<- hxz] at hcx0;have hxz0 : 0 <= xz /\ xz < 1000000000 := by
     have hB9 : B9 = 1000000000 := rfl;omega
    have HXZ := Lib.hid hxz;clear hxz hxx hcX;have hil6 : i <= 1000000 := by omega
    have hr6 : (lm B9 r).length <= 1000000 := by omega
    have hx0 : Hid (dropZ ((lm B9 (a * f))[i] :: lm B9 r) = lm B9 (r * B9 + (lm B9 (a * f))[i])) := by
     unfold Hid;rw [dropZ_eq B9 two_le_B9 _ (by
      intro y hy;rcases List.mem_cons.1 hy with rfl | hy
      ·exact hx9
      ·exact lm_lt B9 r two_le_B9 y hy)]
     congr 1;simp only [lval];rw [lval_lm B9 r two_le_B9, Nat.mul_comm B9 r, Nat.add_comm]
    go_upto_region 19 with fail;go_cut [5] (fun s5 wx => Rd .u64 wx s5 (lm B9 (r * B9 + (lm B9 (a * f))[i])) /\ FreshV (g + 1) s5 /\ Arr .u64 wx g 235 q /\ Below g W2 wx /\ g + 1 <= wx.heap.size)
    case first =>
     rcases Nat.eq_zero_or_pos r with hr0 | hrpos
     ·subst hr0
      rw [lm_zero] at *;have hone : Rd .u64 (wr.alloc (.cells #[.int .u64 xz] 235)) (.slice (some ⟨wr.heap.size, 0, none⟩) 1 1) [(lm B9 (a * f))[i]] :=
       rd_one _ _ _ xz HXZ.out (by rw [World.cell?_alloc_at _ _ _ _ rfl]; rfl)
      have HONE := Lib.hid hone;have hfr1 : FreshV (g + 1) (.slice (some ⟨wr.heap.size, 0, none⟩) 1 1) := by intro a' l' c' e; cases e; exact hwr
      clear hone;cases p5;all_goals
       go_wp2_with fail;refine (trim_full _ _ _ HONE.out).mono ?_;rintro e w3 ⟨v3, rfl, ⟨hv3, hf3⟩, rfl⟩;rw [hx0.out] at hv3;go_wp2_with fail;go_meet;exact ⟨hv3, hf3 _ hfr1, (heap_old _ _ _ harr.lt).trans harr, hB2.alloc (by omega) _, by simp; omega⟩
     ·have hner : lm B9 r ≠ [] := lm_ne_nil B9 r two_le_B9 hrpos
      obtain ⟨b5, o5, rfl, hbl5, hc5'⟩ := hr5' hner;have hrow : (wr.alloc (.cells #[.int .u64 xz] 235)).ownsRow wr.heap.size 235 1 (.slice (some ⟨wr.heap.size, 0, none⟩) 1 1) 1 [.int .u64 xz] :=
       ⟨rfl, .inr ⟨wr.heap.size, 1, _, rfl, Nat.le_refl _, heap_alloc_new _ _, Nat.le_refl _, by unfold maxLen; omega, rfl, rfl⟩⟩
      have hnews : ∀ j u, ((lm B9 r).map fun x : Nat => Value.int .u64 (x : Int))[j]? = some u -> (wr.alloc (.cells #[.int .u64 xz] 235)).cell? ((⟨b5, o5, none⟩ : Addr).add j) = some u := by
       intro j u hu;have hj : j < (lm B9 r).length := by have := (List.getElem?_eq_some_iff.1 hu).1; simpa using this
       rw [List.getElem?_map, List.getElem?_eq_getElem hj] at hu;cases hu;rw [addr_add];show (wr.alloc (.cells #[.int .u64 xz] 235)).cell? ⟨b5, o5 + j, none⟩ = some (.int .u64 (((lm B9 r)[j] : Nat) : Int));exact cell_alloc_l _ (hc5' j hj)
      have hnew1 : ∀ u ∈ (lm B9 r).map fun x : Nat => Value.int .u64 (x : Int), u.oneCell' = true := by
       intro u hu;obtain ⟨y, _, rfl⟩ := List.mem_map.1 hu;rfl
      obtain ⟨i0, hi0, hz0, hz1, hz2⟩ := info_parts Tryz.info_u64;go_wp2_with (first | (at_builtin; refine wpList_append_own _ rfl _ _ 207 rfl wr.heap.size 235 i0 (.int .u64 0) 1 8 Tryz.underlying207 hi0 hz0 hz1 hz2 rfl (by decide) _ _ _ rfl hrow ⟨b5, o5, none⟩ (lm B9 r).length c5 ((lm B9 r).map fun x : Nat => Value.int .u64 (x : Int)) rfl (by simp) hnews hnew1 (by unfold maxLen; omega) (by omega) (by simp) ?_));intro v' w2 hown2 hgr2 _;have hrd2 : Rd .u64 w2 v' ((lm B9 (a * f))[i] :: lm B9 r) := by
       refine Rd.of_owns (base := wr.heap.size) (e := 235) rfl ?_;rw [List.length_cons, Nat.add_comm, List.map_cons, <- HXZ.out];exact hown2
      have hfr2 : FreshV (g + 1) v' := fun a' l' c' e => Nat.le_trans hwr (FreshV.of_owns hown2 a' l' c' e);have hB3 : Below g W2 w2 := (hB2.alloc (by omega) _).grown hgr2 (by simp; omega) (fun k hk => by have e : wr.heap.size = k := (Option.some.inj hk); omega);have harr3 : Arr .u64 w2 g 235 q := (hgr2.block g (by simp; omega) (by intro e; have e : g = wr.heap.size := (Option.some.inj e); omega)).trans ((heap_old _ _ _ harr.lt).trans harr);have hw2s : g + 1 <= w2.heap.size := by have := hgr2.size; simp at this; omega
      have HRD2 := Lib.hid hrd2;clear hown2 hgr2 hrd2 hrow hnews hnew1;go_wp2_with (first | (go_at_call 202; refine (trim_full _ _ _ HRD2.out).mono ?_; rintro e w3 ⟨v3, rfl, ⟨hv3, hf3⟩, rfl⟩; rw [hx0.out] at hv3));go_meet;exact ⟨hv3, hf3 _ hfr2, harr3, hB3, hw2s⟩
    case rest =>
     obtain ⟨hs5, hfs5, harr', hB2', hwc'⟩ := hcut;have zh : wc.cell? ⟨w.heap.size, 0, none⟩ = some (.slice (some ⟨bY, oY, none⟩) (lm B9 (b * f)).length cb) := (zcq hB2' (show w.heap.size < g by omega) z0 :);have hYr : Rd .u64 wc (.slice (some ⟨bY, oY, none⟩) (lm B9 (b * f)).length cb) (lm B9 (b * f)) := RdC.belowB HY.out hB2' HOY.out;have HYR := Lib.hid hYr;obtain ⟨R', hR'⟩ : ∃ R', R' = r * B9 + (lm B9 (a * f))[i] := ⟨_, rfl⟩;have hstep : Hid (foldD (lm B9 (a * f)) (b * f) (bwd (lm B9 (a * f)).length (k + 1)) = (q.set i (R' / (b * f)), R' % (b * f))) := by
      unfold Hid;rw [hR'];have hii : (lm B9 (a * f)).length - 1 - k = i := by have := hiz.out; omega
      rw [bwd_succ, foldD_snoc, hii, <- HFD.out];unfold stepD;simp only [List.getElem?_eq_getElem hil, Option.getD_some]
     have hkl : Hid (k < (lm B9 (a * f)).length) := by have := hiz.out; unfold Hid; omega
     have hq0 : Hid (q[i]?.getD 0 = 0) := by
      have := HZ.out k i (by have := hiz.out; omega);rw [<- HFD.out] at this;exact this
     rw [<- hR'] at hs5;have HR' := Lib.hid hR';obtain ⟨p8, c8, rfl, hc8, hm8, hr8⟩ := hs5.open;have HS5 := Lib.hid hs5;clear hs5 hYr hr5' HR5 harr hB2 hwr hf5 hcx0 HXR hR';rcases Nat.lt_or_ge R' (b * f) with hlt | hge2
     ·have hcmp : Hid (cmpN R' (b * f) = -1) := cmpN_lt hlt
      have hnext : Hid ((q, R') = foldD (lm B9 (a * f)) (b * f) (bwd (lm B9 (a * f)).length (k + 1))) := by
       unfold Hid;rw [hstep.out, Nat.div_eq_of_lt hlt, Nat.mod_eq_of_lt hlt, set_zero _ _ hq0.out]
      clear hr8;go_wp2_with (go_at_call 186; refine (order_any _ _ _ R' (b * f) HS5.out HYR.out).mono ?_; rintro e w1 ⟨_, rfl, rfl, j', rfl⟩; rw [hcmp.out]);go_roundw
      case rel => exact ⟨k + 1, q, R', _, hkl.out, rfl, by have := hiz.out; unfold Hid; omega, hnext, RdC.drewN HS5.out _, hfs5, harr', hB2'.trans ((below_drewN wc j').mono (by omega)), hwc'⟩
      case measure => simp [RowKit.intOf]
     ·have hcmp0 : ¬ cmpN R' (b * f) < 0 := by unfold cmpN; rw [if_neg (by omega)]; split <;> omega
      obtain ⟨cq, hcq⟩ : ∃ cq, cq = cmpN R' (b * f) := ⟨_, rfl⟩;rw [<- hcq] at hcmp0;have HCQ := Lib.hid hcq;have hRb : R' < b * f * B9 := by
       rw [HR'.out];have h1 : (r + 1) * B9 <= b * f * B9 := Nat.mul_le_mul_right _ hrB;rw [Nat.add_mul] at h1;omega
      obtain ⟨ly, hly⟩ : ∃ ly, ly = (lm B9 (b * f)).length := ⟨_, rfl⟩;have hlyk : ly = ky + 1 := by rw [hly]; exact HKY.out
      have hlR1 : ly <= (lm B9 R').length := by
       rw [hly];rcases Nat.lt_or_ge (lm B9 R').length (lm B9 (b * f)).length with h | h
       ·have := lm_lt_of_len B9 R' (b * f) two_le_B9 h
        omega
       ·exact h
      have hlR2 : (lm B9 R').length <= ly + 1 := by
       rw [hly];refine lm_len_le B9 R' _ two_le_B9 (Nat.lt_of_lt_of_le hRb ?_);rw [Nat.pow_succ];exact Nat.mul_le_mul_right _ (Nat.le_of_lt (lm_len_lt B9 (b * f) two_le_B9))
      have hneR : lm B9 R' ≠ [] := List.ne_nil_of_length_pos (by omega);obtain ⟨b8, o8, rfl, hbl8, hc8'⟩ := hr8 hneR;have hlR6 : (lm B9 R').length <= 1000000 := by omega
      have hlR0 : 2 <= (lm B9 R').length := by omega
      have hcT := hc8' ((lm B9 R').length - 1) (by omega);have htR : (lm B9 R')[(lm B9 R').length - 1]'(by omega) < B9 := lm_lt B9 R' two_le_B9 _ (List.getElem_mem _);obtain ⟨uz, huz⟩ : ∃ uz : Int, uz = ((lm B9 R')[(lm B9 R').length - 1]'(by omega) : Nat) := ⟨_, rfl⟩;rw [<- huz] at hcT;have huz0 : 0 <= uz /\ uz < 1000000000 := by
       have hB9 : B9 = 1000000000 := rfl;omega
      have hcU := hc8' ((lm B9 R').length - 2) (by omega);have htU : (lm B9 R')[(lm B9 R').length - 2]'(by omega) < B9 := lm_lt B9 R' two_le_B9 _ (List.getElem_mem _);obtain ⟨vz, hvz⟩ : ∃ vz : Int, vz = ((lm B9 R')[(lm B9 R').length - 2]'(by omega) : Nat) := ⟨_, rfl⟩;rw [<- hvz] at hcU;have hvz0 : 0 <= vz /\ vz < 1000000000 := by
       have hB9 : B9 = 1000000000 := rfl;omega
      have hq9 : R' / (b * f) < B9 := Nat.div_lt_of_lt_mul hRb;have hQ0 := HQL.out k q r HFD.out;have HQ0 := Lib.hid hQ0;have HTZ2 := Lib.hid huz;have HVZ2 := Lib.hid hvz;have HLY := Lib.hid hly;have HLYK := Lib.hid hlyk;clear hcq huz hvz hc8' hr8 hQ0 hly hlyk;rw [HLY.out] at hlR1 hlR2;have HRB := Lib.hid hRb;have HTR := Lib.hid htR;have HTU := Lib.hid htU;have HQ9 := Lib.hid hq9;clear hRb htR htU hq9;go_wp2_with fail;refine (order_any _ _ _ R' (b * f) HS5.out HYR.out).mono ?_;rintro e w1 ⟨_, rfl, rfl, j', rfl⟩;rw [<- HCQ.out];have hcb : decide (cq < 0) = false := by simp; omega
      go_upto_region 21 with fail;have g0 : (wc.drewN j').cell? ⟨w.heap.size, 0, none⟩ = some (.slice (some ⟨bY, oY, none⟩) (lm B9 (b * f)).length cb) := zh;have g1 : (wc.drewN j').cell? ⟨b8, o8 + ((lm B9 R').length - 1), none⟩ = some (.int .u64 uz) := hcT;have g2 : (wc.drewN j').cell? ⟨b8, o8 + ((lm B9 R').length - 2), none⟩ = some (.int .u64 vz) := hcU;rcases Nat.lt_or_ge (lm B9 (b * f)).length (lm B9 R').length with hLL | hLL
      case' inl =>
       have t1 : decide ((lm B9 (b * f)).length < (lm B9 R').length) = true := decide_eq_true hLL
       have HDD : Hid (0 <= uz * 1000000000 + vz /\ uz * 1000000000 + vz <= 1000000000000000000 /\ R' < ((uz * 1000000000 + vz).toNat + 1) * B9 ^ ky) := by
            refine ⟨by omega, by omega, ?_⟩;have h1 : (lm B9 R').length = ky + 2 := by have := HLY.out; have := HLYK.out; omega
            have h2 := lm_drop_lt R' ky;rw [drop_two h1] at h2;simp only [lval, Nat.mul_zero, Nat.add_zero] at h2;have e1 : uz = ((lm B9 R')[ky + 1]'(by omega) : Nat) := by rw [HTZ2.out]; congr 2; omega
            have e2 : vz = ((lm B9 R')[ky]'(by omega) : Nat) := by rw [HVZ2.out]; congr 2; omega
            have e3 : (uz * 1000000000 + vz).toNat = (lm B9 R')[ky]'(by omega) + B9 * (lm B9 R')[ky + 1]'(by omega) := by
             have hB9 : B9 = 1000000000 := rfl;have hb9' : ∀ m : Nat, B9 * m = 1000000000 * m := fun m => rfl;rw [hb9'];generalize (lm B9 R')[ky]'(by omega) = x2 at *;generalize (lm B9 R')[ky + 1]'(by omega) = x1 at *;omega
            rw [e3]; exact h2
       go_upto_region 24 with fail;generalize uz * 1000000000 + vz = Dz at *;clear t1
      case' inr =>
       have t1 : decide ((lm B9 (b * f)).length < (lm B9 R').length) = false := decide_eq_false (by omega)
       have HDD : Hid (0 <= uz /\ uz <= 1000000000000000000 /\ R' < (uz.toNat + 1) * B9 ^ ky) := by
            refine ⟨by omega, by omega, ?_⟩;have h1 : (lm B9 R').length = ky + 1 := by have := HLY.out; have := HLYK.out; omega
            have h2 := lm_drop_lt R' ky;rw [drop_one' h1] at h2;simp only [lval, Nat.mul_zero, Nat.add_zero] at h2;have e1 : uz = ((lm B9 R')[ky]'(by omega) : Nat) := by rw [HTZ2.out]; congr 2; omega
            have e3 : uz.toNat = (lm B9 R')[ky]'(by omega) := by omega
            rw [e3]; exact h2
       go_upto_region 24 with fail;obtain ⟨Dz, hDz⟩ : ∃ Dz, Dz = uz := ⟨_, rfl⟩;rw [<- hDz] at HDD ⊢;clear t1 hDz
      all_goals
       obtain ⟨hD0, hD1, hD2⟩ := HDD.out
       have hdq : R' / (b * f) <= Dz.toNat / ty.toNat := by
            have h1 := HTOP.out;have h2 : ty.toNat = (lm B9 (b * f))[ky] := by have := HTY.out; omega
            rw [h2];exact guess_ge h1.1 hD2 h1.2.2
       have HDQ := Lib.hid hdq;clear hdq hD2;go_upto_region 25 with fail
       obtain ⟨dn, hdn, hdn9, hdnq⟩ : ∃ dn : Nat, min (Dz / ty) 999999999 = (dn : Int) /\ dn <= 999999999 /\ R' / (b * f) <= dn := by
            have h0 : 0 <= Dz / ty := Int.ediv_nonneg hD0 (by omega);have h1 : (Dz / ty).toNat = Dz.toNat / ty.toNat := by
             have e1 : Dz = (Dz.toNat : Int) := by omega
             have e2 : ty = (ty.toNat : Int) := by omega
             conv => lhs; rw [e1, e2, <- Int.natCast_ediv, Int.toNat_natCast]
            have h2 := HDQ.out;have h3 := HQ9.out;have hB9 : B9 = 1000000000 := rfl;generalize R' / (b * f) = Q at *;refine ⟨(min (Dz / ty) 999999999).toNat, by omega, by omega, ?_⟩;rw [<- h1] at h2;omega
       generalize min (Dz / ty) 999999999 = dz at *;have hdz0 : 0 <= dz /\ dz <= 999999999 := by omega
       have HDN := Lib.hid hdn;have HDNQ := Lib.hid hdnq;have hlb6 : (lm B9 (b * f)).length <= 1000000 := by omega
       clear hdn hdnq g1 g2 hcT hcU;go_wp2_with fail;refine (small_any _ _ (b * f) dn dz HDN.out (RdC.drewN HYR.out _) hlb6 (by unfold B9; omega)).mono ?_;rintro e w2 ⟨v2, rfl, hv2, hb2⟩;have hwd : (wc.drewN j').heap.size = wc.heap.size := rfl;have hbel0 : Below wc.heap.size wc w2 := (below_drewN wc j').trans hb2;clear hb2 hwd;go_wp2_with fail;obtain ⟨wo, hwo⟩ : ∃ wo : World, wo = wr := ⟨_, rfl⟩;subst hwo;go_loopw [12, 13] (fun t12 t13 wr => ∃ (dn : Nat) (dz : Int), t12 = .int .u64 dz /\ Hid (dz = dn) /\ 0 <= dz /\ dz <= 999999999 /\ Hid (R' / (b * f) <= dn) /\ Rd .u64 wr t13 (lm B9 (b * f * dn)) /\ Below wc.heap.size wc wr) (fun t12 _ _ => (intOf t12).toNat)
       case atStart => exact ⟨dn, dz, rfl, HDN, hdz0.1, hdz0.2, HDNQ, hv2, hbel0⟩
       case round =>
            clear HDN HDNQ hdz0 hdn9 hv2 hbel0;obtain ⟨dn, dz, rfl, HDN, hdz1, hdz2, HDNQ, hrdp, hbel⟩ := hrel;obtain ⟨pp, cp, rfl, hcp, hmp, hrp⟩ := hrdp.open;have HRP := Lib.hid hrdp;have hlp : (lm B9 (b * f * dn)).length <= 1000000 := by
             refine Nat.le_trans (lm_len_le B9 (b * f * dn) ((lm B9 (b * f)).length + 1) two_le_B9 ?_) (by omega);rw [Nat.pow_succ];have h1 := lm_len_lt B9 (b * f) two_le_B9;have h2 : dn < B9 := by have := HDN.out; have hB9 : B9 = 1000000000 := rfl; omega
             exact Nat.mul_lt_mul_of_lt_of_le h1 (Nat.le_of_lt h2) (by decide)
            have HR5 : Hid (Rd .u64 wr (.slice (some ⟨b8, o8, none⟩) (lm B9 R').length c8) (lm B9 R')) := RdC.below HS5.out hbel;have HRY : Hid (Rd .u64 wr (.slice (some ⟨bY, oY, none⟩) (lm B9 (b * f)).length cb) (lm B9 (b * f))) := RdC.below HYR.out hbel;have zh2 : wr.cell? ⟨w.heap.size, 0, none⟩ = some (.slice (some ⟨bY, oY, none⟩) (lm B9 (b * f)).length cb) := (zcq hbel (show w.heap.size < wc.heap.size by omega) zh :);clear hrdp hrp;rcases Nat.lt_or_ge R' (b * f * dn) with hgt | hle
            ·have hdn1 : 1 <= dn := by
              rcases Nat.eq_zero_or_pos dn with h0 | h0
              ·rw [h0, Nat.mul_zero] at hgt; omega
              ·exact h0
             have hdz3 : 1 <= dz := by have := HDN.out; omega
             have hc1 : Hid (cmpN (b * f * dn) R' = 1) := cmpN_gt hgt;have hbd : b * f <= b * f * dn := Nat.le_mul_of_pos_right _ hdn1;have HSB : Hid (b * f * dn - b * f = b * f * (dn - 1)) := by unfold Hid; rw [Nat.mul_sub, Nat.mul_one]
             have HDM : Hid (dz - 1 = ((dn - 1 : Nat) : Int)) := by unfold Hid; rw [HDN.out]; omega
             have HQM : Hid (R' / (b * f) <= dn - 1) := by
              unfold Hid;have : R' / (b * f) < dn := Nat.div_lt_of_lt_mul hgt;omega
             clear hgt;go_wp2_with fail;refine (order_any _ _ _ (b * f * dn) R' HRP.out HR5.out).mono ?_;rintro e w3 ⟨_, rfl, rfl, j3, rfl⟩;rw [hc1.out];have zh3 : (wr.drewN j3).cell? ⟨w.heap.size, 0, none⟩ = some (.slice (some ⟨bY, oY, none⟩) (lm B9 (b * f)).length cb) := zh2;go_wp2_with fail;refine (minus_any _ _ _ (b * f * dn) (b * f) (RdC.drewN HRP.out _) (RdC.drewN HRY.out _) hbd hlp).mono ?_;rintro e w4 ⟨v4, rfl, hv4, hb4⟩;rw [HSB.out] at hv4;have hbel4 : Below wc.heap.size wc w4 := hbel.trans (((below_drewN wr j3).trans hb4).mono hbel.size);clear hb4 HSB hc1 hbd;go_wp2_with fail;go_roundw
             case rel => exact ⟨dn - 1, dz - 1, rfl, HDM, by omega, by omega, HQM, hv4, hbel4⟩
             case measure => simp [RowKit.intOf]; omega
            ·have hdq : Hid (dn = R' / (b * f)) := by
              unfold Hid;have h1 := HDNQ.out;have h2 : dn <= R' / (b * f) := by
               rw [Nat.le_div_iff_mul_le hbf0, Nat.mul_comm]; exact hle
              omega
             have hc1 : ∃ cy, Hid (cy = cmpN (b * f * dn) R') /\ cy <= 0 := ⟨_, rfl, by unfold cmpN; split; omega; rw [if_neg (by omega)]; omega⟩;obtain ⟨cy, HCY, hcy⟩ := hc1;have hcyb : decide (0 < cy) = false := by simp; omega
             have HSB : Hid (R' - b * f * dn = R' % (b * f)) := by
              unfold Hid;have := Nat.div_add_mod R' (b * f);rw [hdq.out]; omega
             have hlR7 : (lm B9 R').length <= 1000000 := hlR6;go_wp2_with fail;refine (order_any _ _ _ (b * f * dn) R' HRP.out HR5.out).mono ?_;rintro e w3 ⟨_, rfl, rfl, j3, rfl⟩;rw [<- HCY.out];go_upto_region 29 with fail;have x1 : (wr.drewN j3).cell? ⟨w.heap.size + 1, 0, none⟩ = some (.slice (some ⟨g, 0, none⟩) (lm B9 (a * f)).length (lm B9 (a * f)).length) :=
              (hbel.cell (p := ⟨w.heap.size + 1, 0, none⟩) (show w.heap.size + 1 < wc.heap.size by omega)).trans ((zcq hB2' (show w.heap.size + 1 < g by omega) z1 :))
             have xA : Arr .u64 (wr.drewN j3) g 235 q := Arr.drewN (Arr.below harr' hbel) j3;have xR := RdC.drewN HR5.out j3;have xP := RdC.drewN HRP.out j3;have xB : Below g W2 (wr.drewN j3) := hB2'.trans ((hbel.trans ((below_drewN wr j3).mono hbel.size)).mono (show g <= wc.heap.size by omega));have xs : g + 1 <= (wr.drewN j3).heap.size := by have := hbel.size; show g + 1 <= wr.heap.size; omega
             clear hbel HR5 HRY HRP zh2;generalize wr.drewN j3 = X at *;have hqi : i < q.length := by rw [HQ0.out]; exact hil
             have xi := xA.cell i hqi;have xif := xA.frozen i;have XRD : Hid (Rd .u64 X.drew (.slice (some ⟨b8, o8, none⟩) (lm B9 R').length c8) (lm B9 R')) := xR;have XPD : Hid (Rd .u64 X.drew (.slice pp (lm B9 (b * f * dn)).length cp) (lm B9 (b * f * dn))) := xP;have XA := Lib.hid xA;have XB := Lib.hid xB;have HLE := Lib.hid hle;clear xR xP xA xB hle;have f1 : (0 : Int) <= (i : Int) := by omega
             have f2 : (i : Int) < ((lm B9 (a * f)).length : Int) := by omega
             have hXd : X.drew.heap.size = X.heap.size := rfl;have HXD := Lib.hid hXd;clear hXd
             go_region_with (first
              | (go_at_call 187; refine (minus_full _ _ _ R' (b * f * dn) XRD.out XPD.out HLE.out hlR7).mono ?_; rintro e w4 ⟨v4, rfl, ⟨hv4, hf4⟩, hb4⟩
                 have y1 := zcq hb4 (show w.heap.size + 1 < X.heap.size by omega) x1;have yi := zcq hb4 (show g < X.heap.size by omega) xi;have yif := (hb4.frozen (p := ⟨g, i, none⟩) (show g < X.heap.size by omega)).trans xif;obtain ⟨p4, c4, rfl, hc4, hm4, hr4⟩ := hv4.open;clear hr4))
             all_goals
              have zz : Hid (Value.int .u64 dz = .int .u64 ((R' / (b * f) : Nat) : Int)) := by unfold Hid; rw [HDN.out, hdq.out]
              have XA4 : Hid (Arr .u64 w4 g 235 q) := Arr.below (w := X.drew) XA.out hb4;have hsz4 := hb4.size;have XB4 : Hid (Below g W2 w4) := XB.out.trans ((((Below.refl X.heap.size X).drew).trans hb4).mono (show g <= X.heap.size by omega));have hfr4 : FreshV (g + 1) (.slice p4 (lm B9 (R' - b * f * dn)).length c4) := fun a' l' c' e => Nat.le_trans (show g + 1 <= X.drew.heap.size from xs) (hf4 a' l' c' e);rw [HSB.out] at *;have HV4 := Lib.hid hv4;have hw4s : g + 1 <= w4.heap.size := Nat.le_trans (show g + 1 <= X.drew.heap.size from xs) hsz4;clear hb4 hf4 hv4 yi yif y1 xi xif x1 hsz4;go_wp2_with fail;go_roundw
              case rel =>
               exact ⟨k + 1, q.set i (R' / (b * f)), R' % (b * f), _, hkl.out, rfl, by have := hiz.out; unfold Hid; omega, hstep.out.symm, RdC.set_fresh HV4.out hfr4 _, hfr4, XA4.out.set i _ zz.out, XB4.out.setCell (Nat.le_refl _) _, by simp [World.setCell]; omega⟩
              case measure => simp [RowKit.intOf]
end Go.Proofs.YtbfcmipplhkkeaaGreatDoor
