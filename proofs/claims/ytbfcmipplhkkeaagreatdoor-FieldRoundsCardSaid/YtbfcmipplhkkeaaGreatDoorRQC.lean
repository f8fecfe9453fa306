import Derived.Test.YtbfcmipplhkkeaaGreatDoorRQB
/- Rational: Compare to Check; vector. -/
set_option maxHeartbeats 1000000
set_option maxRecDepth 100000
namespace Go.Proofs.YtbfcmipplhkkeaaGreatDoor
open Go.RowKit Go.Lib
theorem RS_beq (p q : Rat) : ((RS p).toList == (RS q).toList) = decide (p = q) := by rw [ba_toList, ba_toList, RS_list, RS_list, RL_beq]
theorem cmpQ_cmpZ (p q : Rat) : cmpQ p q = cmpZ (p.num * (q.den : Int)) (q.num * (p.den : Int)) := by
 unfold cmpQ cmpZ;simp only [Rat.lt_iff]
theorem cmpQ_self (p : Rat) : cmpQ p p = 0 := by
 unfold cmpQ; rw [if_neg (Rat.lt_irrefl), if_neg (Rat.lt_irrefl)]
theorem ratCompare_any (p q : Rat) (k : Nat) (hk : 0 < k) (hk2 : k <= 20000) (hp : Sz k p) (hq : Sz k q) (w : World) (hg : Good w) :
 Calls Tryz.prog 104 #[.string (RS p), .string (RS q)] w (Ret (fun v _ => v = .int .i64 (cmpQ p q)) w) := by
 have hsp := hp.size hk;have hsq := hq.size hk;have hpn := hp.num_size hk;have hqn := hq.num_size hk;have hpd := hp.den_size hk;have hqd := hq.den_size hk;have HC := hid (cmpQ_cmpZ p q);have HM1 := hid (mul_size (j := k + 1) (k := k + 1) (by omega) (by omega) hpn hqd);have HM2 := hid (mul_size (j := k + 1) (k := k + 1) (by omega) (by omega) hqn hpd);clear hp hq;have he := RS_beq p q;by_cases hpq : p = q
 ·rw [decide_eq_true hpq] at he
  have HF : Hid (cmpQ p q = 0) := by unfold Hid; rw [hpq, cmpQ_self]
  clear hpq;go_enter Tryz.func104, Tryz.ntmps104;go_wp2_with fail;go_ret;exact ⟨_, rfl, congrArg (Value.int .i64) HF.out.symm, Below.refl _ _⟩
 rw [decide_eq_false hpq] at he;clear hpq;go_enter Tryz.func104, Tryz.ntmps104;go_wp2_with fail;refine (quickQ_any p (by omega) _).mono ?_;rintro e w1 ⟨_, rfl, ⟨x, y, one, rfl, hx⟩, rfl⟩;rcases Bool.eq_false_or_eq_true one with h1 | h1
 case' inl =>
  subst h1;obtain ⟨hx1, hx2, hx3, hx4⟩ := hx rfl;have HX1 := hid hx1;have HX2 := hid hx2;clear hx hx1 hx2;go_wp2_with fail;refine (quickQ_any q (by omega) _).mono ?_;rintro e w2 ⟨_, rfl, ⟨x2, y2, two, rfl, hy⟩, rfl⟩;rcases Bool.eq_false_or_eq_true two with h2 | h2
 ·subst h2
  obtain ⟨hy1, hy2, hy3, hy4⟩ := hy rfl;clear hy;have hl1 := prod_lim (x := x) (y := y2) (by omega) (by omega);have hl3 := prod_lim (x := x2) (y := y) (by omega) (by omega);have HR : Hid (cmpQ p q = cmpZ (x * y2) (x2 * y)) := by unfold Hid; rw [HX1.out, hy1, HX2.out, hy2]; exact HC.out
  clear hy1 hy2 HC;rcases Int.lt_trichotomy (x * y2) (x2 * y) with h | h | h
  ·have HF : Hid (cmpQ p q = -1) := HR.out.trans (cmpZ_lt h)
   clear HR;go_wp2_with fail;go_ret;exact ⟨_, rfl, congrArg (Value.int .i64) HF.out.symm, Below.refl _ _⟩
  ·have HF : Hid (cmpQ p q = 0) := HR.out.trans (by unfold cmpZ; rw [if_neg (by omega), if_neg (by omega)])
   have HH := hid h;have h5 : ¬ (x * y2 < x2 * y) := by omega
   have h6 : ¬ (x2 * y < x * y2) := by omega
   clear HR h;go_wp2_with fail;go_ret;exact ⟨_, rfl, congrArg (Value.int .i64) HF.out.symm, Below.refl _ _⟩
  ·have HF : Hid (cmpQ p q = 1) := HR.out.trans (cmpZ_gt h)
   have h5 : ¬ (x * y2 < x2 * y) := by omega
   clear HR;go_wp2_with fail;go_ret;exact ⟨_, rfl, congrArg (Value.int .i64) HF.out.symm, Below.refl _ _⟩
 all_goals
  first
  | subst h2
    clear hy HX1 HX2 hx3 hx4
  | subst h1
    clear hx
  go_upto_region 13 with fail
 all_goals
  go_wp2_with fail;refine ((parts_rat p (by omega) _ hg).mono fun _ _ h => h.ret).mono ?_;rintro e w4 ⟨_, rfl, rfl, hb4⟩;have hg5 := hg.below hb4;go_wp2_with fail;refine ((parts_rat q (by omega) _ hg5).mono fun _ _ h => h.ret).mono ?_;rintro e w5 ⟨_, rfl, rfl, hb5⟩;have hb6 := hb4.trans (hb5.mono hb4.size);clear hb5 hb4 hg5;have hg6 := hg.below hb6;go_wp2_with fail;refine (mul_any p.num (q.den : Int) (by omega) (by omega) _ hg6).mono ?_;rintro e w61 ⟨_, rfl, rfl, hb4⟩;have hb61 := hb6.trans (hb4.mono hb6.size);clear hb6 hb4 hg6;have hg61 := hg.below hb61;go_wp2_with fail;refine (mul_any q.num (p.den : Int) (by omega) (by omega) _ hg61).mono ?_;rintro e w62 ⟨_, rfl, rfl, hb4⟩;have hb62 := hb61.trans (hb4.mono hb61.size);clear hb61 hb4 hg61;go_wp2_with fail;refine (compare_any (p.num * (q.den : Int)) (q.num * (p.den : Int)) (by have := HM1.out; omega) (by have := HM2.out; omega) _).mono ?_;rintro e w63 ⟨_, rfl, rfl, rfl⟩;rw [<- HC.out];go_wp2_with fail;go_ret;exact ⟨_, rfl, rfl, hb62⟩
def minQ (p q : Rat) : Rat := if q < p then q else p
def maxQ (p q : Rat) : Rat := if p < q then q else p
theorem ratMin_any (p q : Rat) (k : Nat) (hk : 0 < k) (hk2 : k <= 20000) (hp : Sz k p) (hq : Sz k q) (w : World) (hg : Good w) :
 Calls Tryz.prog 147 #[.string (RS p), .string (RS q)] w (Ret (fun v _ => v = .string (RS (minQ p q))) w) := by
 have HP := hid hp;have HQ := hid hq;clear hp hq;by_cases h : q < p
 ·have HC : Hid (cmpQ q p = -1) := by unfold Hid cmpQ; rw [if_pos h]
  have HR : Hid (q = minQ p q) := by unfold Hid minQ; rw [if_pos h]
  clear h;go_enter Tryz.func147, Tryz.ntmps147;go_wp2_with fail;refine (ratCompare_any q p k hk hk2 HQ.out HP.out _ hg).mono ?_;rintro e w1 ⟨_, rfl, rfl, hb1⟩;rw [HC.out];go_wp2_with fail;go_ret;exact ⟨_, rfl, congrArg (fun z => Value.string (RS z)) HR.out, hb1⟩
 ·have HC : ∃ z, 0 <= z /\ Hid (cmpQ q p = z) := by
   refine ⟨cmpQ q p, ?_, rfl⟩;unfold cmpQ; rw [if_neg h]; split <;> omega
  have HR : Hid (p = minQ p q) := by unfold Hid minQ; rw [if_neg h]
  obtain ⟨z, hz, HC⟩ := HC;clear h;go_enter Tryz.func147, Tryz.ntmps147;go_wp2_with fail;refine (ratCompare_any q p k hk hk2 HQ.out HP.out _ hg).mono ?_;rintro e w1 ⟨_, rfl, rfl, hb1⟩;rw [HC.out];go_wp2_with fail;go_ret;exact ⟨_, rfl, congrArg (fun z => Value.string (RS z)) HR.out, hb1⟩
theorem ratMax_any (p q : Rat) (k : Nat) (hk : 0 < k) (hk2 : k <= 20000) (hp : Sz k p) (hq : Sz k q) (w : World) (hg : Good w) :
 Calls Tryz.prog 146 #[.string (RS p), .string (RS q)] w (Ret (fun v _ => v = .string (RS (maxQ p q))) w) := by
 have HP := hid hp;have HQ := hid hq;clear hp hq;by_cases h : p < q
 ·have HC : Hid (cmpQ q p = 1) := by
   unfold Hid cmpQ; rw [if_neg (Rat.not_lt.2 (Rat.le_of_lt h)), if_pos h]
  have HR : Hid (q = maxQ p q) := by unfold Hid maxQ; rw [if_pos h]
  clear h;go_enter Tryz.func146, Tryz.ntmps146;go_wp2_with fail;refine (ratCompare_any q p k hk hk2 HQ.out HP.out _ hg).mono ?_;rintro e w1 ⟨_, rfl, rfl, hb1⟩;rw [HC.out];go_wp2_with fail;go_ret;exact ⟨_, rfl, congrArg (fun z => Value.string (RS z)) HR.out, hb1⟩
 ·have HC : ∃ z, z <= 0 /\ Hid (cmpQ q p = z) := by
   refine ⟨cmpQ q p, ?_, rfl⟩;unfold cmpQ; rw [if_neg h]; split <;> omega
  have HR : Hid (p = maxQ p q) := by unfold Hid maxQ; rw [if_neg h]
  obtain ⟨z, hz, HC⟩ := HC;clear h;go_enter Tryz.func146, Tryz.ntmps146;go_wp2_with fail;refine (ratCompare_any q p k hk hk2 HQ.out HP.out _ hg).mono ?_;rintro e w1 ⟨_, rfl, rfl, hb1⟩;rw [HC.out];go_wp2_with fail;go_ret;exact ⟨_, rfl, congrArg (fun z => Value.string (RS z)) HR.out, hb1⟩
theorem inv_texts (q : Rat) (h : q.num ≠ 0) (x : Int) (hx : x = if q.num < 0 then -(q.den : Int) else (q.den : Int)) :
 ((q.num.natAbs : Int) = 1 -> IS x = RS q⁻¹) /\ ((q.num.natAbs : Int) ≠ 1 -> (IS x ++ ⟨#[47]⟩) ++ IS (q.num.natAbs : Int) = RS q⁻¹) := by
 obtain ⟨n, hab, hm⟩ := inv_mkRat q h;have hxn : x = n := by
  rw [hx];rcases hab with ⟨h1, h2⟩ | ⟨h1, h2⟩
  ·rw [if_neg (by omega), h2]
  ·rw [if_pos (by omega), h2]; omega
 have hnn : n.natAbs = q.den := by rcases hab with ⟨h1, h2⟩ | ⟨h1, h2⟩ <;> omega
 have hg : 1 = Nat.gcd n.natAbs q.num.natAbs := by
  rw [hnn, Nat.gcd_comm]; exact Eq.symm q.reduced
 have hr := RS_mkRat (n := n) (d := q.num.natAbs) (g := 1) (by omega) hg (x := x) (y := (q.num.natAbs : Int)) (by rw [hxn, show ((1 : Nat) : Int) = 1 from rfl, Int.tdiv_one]) (by rw [Nat.div_one]);rw [hm] at hr;exact hr
theorem ratDiv_any (p q : Rat) (k : Nat) (hk : 0 < k) (hk2 : k <= 20000) (hp : Sz k p) (hq : Sz k q) (h0 : q ≠ 0) (w : World) (hg : Good w) :
 Calls Tryz.prog 70 #[.string (RS p), .string (RS q)] w (Ret (fun v _ => v = .tuple #[.string (RS (p / q)), .int .i64 0]) w) := by
 have hn0 : q.num ≠ 0 := fun e => h0 (Rat.num_eq_zero.1 e);have HT := hid (inv_texts q hn0);have HE : Hid (p * q⁻¹ = p / q) := by unfold Hid; rw [Rat.div_def]
 have HP := hid hp;have HQ := hid (hq.inv hk);have hqn := hq.num_size hk;have hqd := hq.den_size hk;have hqs := hq.size hk;have hqn' := neg_size hqn;have hqa : (IS (q.num.natAbs : Int)).size <= k + 1 := abs_size hqn;have hqd' := neg_size hqd;have h8 := RS_eq48 q;rw [decide_eq_false h0] at h8;have hs0 := RS_pos q;have hh := RS_head q hs0;have HPT := fun w hg => hid (parts_rat q (by omega) w hg)
 clear hp hq h0;generalize RS q = s at *;obtain ⟨c0, hc0⟩ : ∃ c0 : Nat, s[0].toNat = c0 := ⟨_, rfl⟩;rw [hc0] at hh;rcases Int.lt_or_lt_of_ne hn0 with h | h
 ·have t1 : ((c0 : Int) == 45) = true := by rw [beq_iff_eq]; have := hh.2 h; omega
  have HA : Hid (-q.num = (q.num.natAbs : Int)) := by unfold Hid; omega
  have HJ := hid (HT.out (-(q.den : Int)) (by rw [if_pos h]));clear hh h hn0;go_enter Tryz.func70, Tryz.ntmps70;go_wp2_with fail;refine ((HPT _ hg).out.mono fun _ _ h => h.ret).mono ?_;rintro e w1 ⟨_, rfl, rfl, hb1⟩;go_wp2_with fail;refine (neg_any q.num (by omega) _).mono ?_;rintro e w2 ⟨_, rfl, rfl, rfl⟩;go_wp2_with fail;refine (neg_any (q.den : Int) (by omega) _).mono ?_;rintro e w2 ⟨_, rfl, rfl, rfl⟩;rw [HA.out];go_wp2_with fail;refine (joinQ_any (-(q.den : Int)) (q.num.natAbs : Int) (RS q⁻¹) HJ.out (by omega) (by omega) _).mono ?_;rintro e w2 ⟨_, rfl, rfl, rfl⟩;go_wp2_with fail;refine (ratMul_any p q⁻¹ k hk hk2 HP.out HQ.out _ (hg.below hb1)).mono ?_;rintro e w3 ⟨_, rfl, rfl, hb4⟩;rw [HE.out];go_wp2_with fail;go_ret2;exact ⟨_, rfl, rfl, hb1.trans (hb4.mono hb1.size)⟩
 ·have t1 : ((c0 : Int) == 45) = false := by rw [beq_eq_false_iff_ne]; intro e; have := hh.1 (by omega); omega
  have HA : Hid (q.num = (q.num.natAbs : Int)) := by unfold Hid; omega
  have HJ := hid (HT.out (q.den : Int) (by rw [if_neg (by omega)]));clear hh h hn0;go_enter Tryz.func70, Tryz.ntmps70;go_wp2_with fail;refine ((HPT _ hg).out.mono fun _ _ h => h.ret).mono ?_;rintro e w1 ⟨_, rfl, rfl, hb1⟩;go_upto_region 6 with fail;have HJ2 := hid (joinQ_any (q.den : Int) q.num (RS q⁻¹) (by rw [HA.out]; exact HJ.out) (by omega) (by omega));go_wp2_with fail;refine (HJ2.out _).mono ?_;rintro e w2 ⟨_, rfl, rfl, rfl⟩;go_wp2_with fail;refine (ratMul_any p q⁻¹ k hk hk2 HP.out HQ.out _ (hg.below hb1)).mono ?_;rintro e w3 ⟨_, rfl, rfl, hb4⟩;rw [HE.out];go_wp2_with fail;go_ret2;exact ⟨_, rfl, rfl, hb1.trans (hb4.mono hb1.size)⟩
theorem sign_ne {b : Int} (h : b ≠ 0) : b.sign ≠ 0 := fun e => h (Int.sign_eq_zero_iff_zero.1 e)
theorem ratNew_any (a b n : Int) (d : Nat) (dz : Int) (hdz : dz = (d : Int)) (hd : 0 < d) (hsa : (IS a).size <= 90000) (hsb : (IS b).size <= 90000)
 (hab : (b = dz /\ a = n) \/ (b = -dz /\ a = -n)) (w : World) (hg : Good w) :
 Calls Tryz.prog 112 #[.string (IS a), .string (IS b)] w (Ret (fun v _ => v = .tuple #[.string (RS (mkRat n d)), .int .i64 0]) w) := by
 have hb0 : b ≠ 0 := by omega
 have hs := sign_ne hb0;obtain ⟨sg, hsg⟩ : ∃ sg, sg = b.sign := ⟨_, rfl⟩;rw [<- hsg] at hs;have HSG := hid hsg;have HDZ := hid hdz;have HAB := hid hab;have t1 : (sg == 0) = false := by rw [beq_eq_false_iff_ne]; exact hs
 clear hsg hdz hab hb0;go_enter Tryz.func112, Tryz.ntmps112;go_wp2_with fail;refine (sign_any b _).mono ?_;rintro e w1 ⟨_, rfl, rfl, rfl⟩;rw [<- HSG.out];go_wp2_with fail;refine (lowestI_any a b n d dz HDZ.out hd hsa hsb HAB.out _ hg).mono ?_;rintro e w2 ⟨_, rfl, rfl, hb1⟩;go_wp2_with fail;go_ret2;exact ⟨_, rfl, rfl, hb1⟩
theorem ratOf_any (a b n : Int) (d : Nat) (dz : Int) (hdz : dz = (d : Int)) (hd : 0 < d) (ha : -9223372036854775808 <= a /\ a <= 9223372036854775807) (hb : -9223372036854775808 <= b /\ b <= 9223372036854775807)
 (hab : (b = dz /\ a = n) \/ (b = -dz /\ a = -n)) (w : World) (hg : Good w) :
 Calls Tryz.prog 62 #[.int .i64 a, .int .i64 b] w (Ret (fun v _ => v = .tuple #[.string (RS (mkRat n d)), .int .i64 0]) w) := by
 have hsa := IS_size20 (x := a) (by omega);have hsb := IS_size20 (x := b) (by omega);have HDZ := hid hdz;have HAB := hid hab;clear hdz hab;go_enter Tryz.func62, Tryz.ntmps62;go_wp2_with fail;refine (of_any a (by omega) (by omega) _ hg).mono ?_;rintro e w1 ⟨_, rfl, rfl, hb1⟩;have hg1 := hg.below hb1;go_wp2_with fail;refine (of_any b (by omega) (by omega) _ hg1).mono ?_;rintro e w2 ⟨_, rfl, rfl, hb2⟩;have hb3 := hb1.trans (hb2.mono hb1.size);clear hb1 hb2 hg1;have hg3 := hg.below hb3;go_wp2_with fail;refine (ratNew_any a b n d dz HDZ.out hd (by omega) (by omega) HAB.out _ hg3).mono ?_;rintro e w3 ⟨_, rfl, rfl, hb4⟩;go_wp2_with fail;go_ret2;exact ⟨_, rfl, rfl, hb3.trans (hb4.mono hb3.size)⟩
theorem ofQ_any (a b n : Int) (d : Nat) (dz : Int) (hdz : dz = (d : Int)) (hd : 0 < d) (ha : -9223372036854775808 <= a /\ a <= 9223372036854775807) (hb : -9223372036854775808 <= b /\ b <= 9223372036854775807)
 (hab : (b = dz /\ a = n) \/ (b = -dz /\ a = -n)) (w : World) (hg : Good w) :
 Calls Tryz.prog 8 #[.int .i64 a, .int .i64 b] w (Ret (fun v _ => v = .string (RS (mkRat n d))) w) := by
 have hsa := IS_size20 (x := a) (by omega);have hsb := IS_size20 (x := b) (by omega);have HDZ := hid hdz;have HAB := hid hab;clear hdz hab;go_enter Tryz.func8, Tryz.ntmps8;go_wp2_with fail;refine (ofR_any a (by omega) (by omega) _ hg).mono ?_;rintro e w1 ⟨_, rfl, rfl, hb1⟩;have hg1 := hg.below hb1;go_wp2_with fail;refine (ofR_any b (by omega) (by omega) _ hg1).mono ?_;rintro e w2 ⟨_, rfl, rfl, hb2⟩;have hb3 := hb1.trans (hb2.mono hb1.size);clear hb1 hb2 hg1;have hg3 := hg.below hb3;go_wp2_with fail;refine (fractionQ_any a b n d dz HDZ.out hd (by omega) (by omega) HAB.out _ hg3).mono ?_;rintro e w3 ⟨_, rfl, rfl, hb4⟩;go_wp2_with fail;go_ret;exact ⟨_, rfl, rfl, hb3.trans (hb4.mono hb3.size)⟩
def RdQ (w : World) (v : Value) (l : List Rat) : Prop := RdC 1 w v l.length (l.map fun q => Value.string (RS q))
theorem RdQ.open {w : World} {v : Value} {l : List Rat} (h : RdQ w v l) : ∃ p c, v = .slice p l.length c /\ l.length <= c /\ c <= maxLen /\
 (l ≠ [] -> ∃ b off, p = some ⟨b, off, none⟩ /\ b < w.heap.size /\ ∀ (i : Nat) (hi : i < l.length), w.cell? ⟨b, off + i, none⟩ = some (.string (RS l[i]))) := by
 obtain ⟨p, c, hv, h1, h2, h3, h4⟩ := h;refine ⟨p, c, hv, h1, h2, fun hne => ?_⟩;obtain ⟨b, off, hp, hc⟩ := h4 (by simpa using hne);have hcell : ∀ (i : Nat) (hi : i < l.length), w.cell? ⟨b, off + i, none⟩ = some (.string (RS l[i])) := fun i hi => hc i _ (by simp [hi])
 have h0 : 0 < l.length := List.length_pos_iff.2 hne;exact ⟨b, off, hp, World.block_lt_of_cell? w _ (hcell 0 h0), hcell⟩
theorem fold_step (l : List Rat) (i : Nat) (h : i < l.length) : (l.take (i + 1)).foldl (· + ·) 0 = (l.take i).foldl (· + ·) 0 + l[i] := by
 rw [List.take_succ_eq_append_getElem h, List.foldl_append]; rfl
theorem ratSum_any (l : List Rat) (k : Nat) (hk : 0 < k) (hlen : l.length * (k + 1) + 1 <= 20000) (hl : ∀ q ∈ l, Sz k q) (v : Value) (w : World) (hr : RdQ w v l) (hg : Good w) :
 Calls Tryz.prog 79 #[v] w (Ret (fun r _ => r = .string (RS (l.foldl (·+ ·) 0))) w) := by
 obtain ⟨p, c, rfl, hlc, hcm, hr'⟩ := hr.open;clear hr;have HL := hid hl;have HR := hid hr';clear hl hr';have hlm : l.length <= 20000 := by
  have : l.length * 1 <= l.length * (k + 1) := Nat.mul_le_mul_left _ (by omega);omega
 have HLEN := hid hlen;clear hlen;go_enter Tryz.func79, Tryz.ntmps79;go_wp2_with fail;go_loopw [3, 8] (fun t3 t8 wr => ∃ (i : Nat) (s : Rat), t3 = .string (RS s) /\ t8 = .int .i64 i /\ i <= l.length /\ Hid (s = (l.take i).foldl (·+ ·) 0) /\ Hid (Sz (i * (k + 1) + 1) s) /\ Below w.heap.size w wr) (fun _ t8 _ => l.length - (RowKit.intOf t8).toNat)
 case atStart => exact ⟨0, 0, congrArg Value.string RS_zero.symm, rfl, Nat.zero_le _, rfl, Sz.zero _ (by omega), Below.refl _ _⟩
 case round =>
  obtain ⟨i, s, rfl, rfl, hi, HS, HZ, hbl⟩ := hrel;rcases Nat.lt_or_ge i l.length with h | h
  ·obtain ⟨b, off, rfl, hbs, hcell⟩ := HR.out (by intro e; rw [e] at h; simp at h)
   have hc : wr.cell? ⟨b, off + i, none⟩ = some (.string (RS l[i])) := (zcq hbl hbs (hcell i h) :);have hzx := HL.out l[i] (List.getElem_mem h);have hst := fold_step l i h;obtain ⟨x, hx⟩ : ∃ x, x = l[i] := ⟨_, rfl⟩;rw [<- hx] at hc hzx hst;have HN : Hid (s + x = (l.take (i + 1)).foldl (·+ ·) 0) := by unfold Hid; rw [hst, HS.out]
   have hmul : (i + 1) * (k + 1) <= l.length * (k + 1) := Nat.mul_le_mul_right _ h;have hexp : (i + 1) * (k + 1) = i * (k + 1) + (k + 1) := Nat.succ_mul _ _;have HZN : Hid (Sz ((i + 1) * (k + 1) + 1) (s + x)) := (HZ.out.add hzx).mono (by omega);have HZS : Hid (Sz 20000 s) := HZ.out.mono (by have := HLEN.out; omega);have HZX : Hid (Sz 20000 x) := hzx.mono (by have := HLEN.out; omega);have hgr := hg.below hbl;clear hx hzx hst hmul hexp hcell HS HZ;go_wp2_with fail;refine (ratAdd_any s x 20000 (by omega) (by omega) HZS.out HZX.out _ hgr).mono ?_;rintro e w2 ⟨_, rfl, rfl, hb2⟩;have hb3 := hbl.trans (hb2.mono hbl.size);clear hb2 hgr;go_wp2_with fail;go_roundw
   case rel => exact ⟨i + 1, s + x, rfl, by go_num, h, HN, HZN, hb3⟩
   case measure => simp [RowKit.intOf]; omega
  ·have HF : Hid (s = l.foldl (·+ ·) 0) := by have := HS.out; rw [List.take_of_length_le h] at this; exact this
   clear HS HZ;go_wp2_with fail;go_ret;exact ⟨_, rfl, congrArg (fun z => Value.string (RS z)) HF.out, hbl⟩
def valI (l : List UInt8) : Int := (atoi l).getD 0
theorem valI_itoa (n : Int) : valI (itoa n) = n := by unfold valI; rw [atoi_itoa]; rfl
def fitB (a b : Int) : Bool := decide (1 < b) && !(decide (a = 0)) && decide (Int.gcd a b = 1)
def rightQ (l : List UInt8) : Bool := rightI (fst47 l) && (decide (indexByte l 47 < 0) || (rightI (snd47 l) && fitB (valI (fst47 l)) (valI (snd47 l))))
theorem rightI_val {l : List UInt8} (h : rightI l = true) : l = itoa (valI l) /\ (BS l).size <= 201 := by
 unfold rightI at h;rw [Bool.and_eq_true] at h;obtain ⟨n, hn⟩ := canonB_val h.1;have h2 := of_decide_eq_true h.2;refine ⟨by rw [hn, valI_itoa], ?_⟩;rw [hn, itoa_trim] at h2;rw [BS_size, hn, itoa_len];rw [decDigits_length] at h2;split <;> omega
theorem cut47 (l : List UInt8) : cut l [47] = if indexByte l 47 < 0 then (l, [], false) else (fst47 l, snd47 l, true) := by
 unfold cut fst47 snd47;rw [index_one];by_cases h : 0 <= indexByte l 47
 ·rw [if_pos h, if_neg (by omega), if_pos h, if_pos h]; rfl
 ·rw [if_neg h, if_pos (by omega)]
theorem err_ok {l : List UInt8} (h : rightQ l = true) : 0 = errNum (rightQ l) := by rw [h]; rfl
theorem err_bad {l : List UInt8} (h : rightQ l = false) : 2 = errNum (rightQ l) := by rw [h]; rfl
theorem checkQ_any (s : ByteArray) (hs : s.size < 1000000000) (w : World) (hg : Good w) :
 Calls Tryz.prog 61 #[.string s] w (Ret (fun v _ => v = .int .i64 (errNum (rightQ s.data.toList))) w) := by
 obtain ⟨l, hl⟩ : ∃ l, l = s.data.toList := ⟨_, rfl⟩;have HC := hid (cut47 l);obtain ⟨A, hA⟩ : ∃ A, A = fst47 l := ⟨_, rfl⟩;obtain ⟨D, hD⟩ : ∃ D, D = snd47 l := ⟨_, rfl⟩;have HQ : Hid (rightQ l = (rightI A && (decide (indexByte l 47 < 0) || (rightI D && fitB (valI A) (valI D))))) := by unfold Hid rightQ; rw [hA, hD]
 rw [<- hA, <- hD] at HC;have hfn : indexByte l 47 < 0 -> A = l := fun h => by rw [hA]; unfold fst47; rw [if_neg (by omega)]
 have HFN := hid hfn;have hAs : (BS A).data.toList = A := BS_list A;have hDs : (BS D).data.toList = D := BS_list D;rw [<- hl];have HCUT := hid (cut_any s hs w hg);rw [<- hl] at HCUT;have HCA := hid (checkI_any (BS A));have HCD := hid (checkI_any (BS D));rw [hAs] at HCA;rw [hDs] at HCD;have hsl : l.length = s.size := by rw [hl, Array.length_toList]; rfl
 have hsA : (BS A).size <= 1000000000000 := by
  rw [BS_size, hA]; unfold fst47; split
  ·rw [List.length_take]; omega
  ·omega
 have hsD : (BS D).size <= 1000000000000 := by
  rw [BS_size, hD]; unfold snd47; split
  ·rw [List.length_drop]; omega
  ·simp
 clear hA hD hl hfn hAs hDs hsl;by_cases hsl : indexByte l 47 < 0
 ·have hc2 : Hid (cut l [47] = (A, [], false)) := by unfold Hid; rw [HC.out, if_pos hsl, HFN.out hsl]
  have HQ2 : Hid (rightQ l = rightI A) := by unfold Hid; rw [HQ.out, decide_eq_true hsl]; simp
  clear hsl;go_enter Tryz.func61, Tryz.ntmps61;go_wp2_with fail;refine (HCUT.out.mono fun _ _ h => h.ret).mono ?_;rintro e w1 ⟨_, rfl, rfl, hb1⟩;rw [hc2.out];go_wp2_with fail;refine (HCA.out hsA _).mono ?_;rintro e w2 ⟨_, rfl, rfl, rfl⟩;rw [<- HQ2.out];rcases Bool.eq_false_or_eq_true (rightQ l) with h | h
  ·have HE := hid (err_ok h)
   rw [h, show errNum true = 0 from rfl];clear h;go_wp2_with fail;go_ret;exact ⟨_, rfl, congrArg (Value.int .i64) HE.out, hb1⟩
  ·have HE := hid (err_bad h)
   rw [h, show errNum false = 2 from rfl];clear h;go_wp2_with fail;go_ret;exact ⟨_, rfl, congrArg (Value.int .i64) HE.out, hb1⟩
 ·have hc2 : Hid (cut l [47] = (A, D, true)) := by unfold Hid; rw [HC.out, if_neg hsl]
  have HQ2 : Hid (rightQ l = (rightI A && (rightI D && fitB (valI A) (valI D)))) := by unfold Hid; rw [HQ.out, decide_eq_false hsl]; simp
  clear hsl;go_enter Tryz.func61, Tryz.ntmps61;go_wp2_with fail;refine (HCUT.out.mono fun _ _ h => h.ret).mono ?_;rintro e w1 ⟨_, rfl, rfl, hb1⟩;rw [hc2.out];go_wp2_with fail;refine (HCA.out hsA _).mono ?_;rintro e w2 ⟨_, rfl, rfl, rfl⟩;rcases Bool.eq_false_or_eq_true (rightI A) with hra | hra
  ·rw [hra, show errNum true = 0 from rfl]
   go_wp2_with fail;refine (HCD.out hsD _).mono ?_;rintro e w2 ⟨_, rfl, rfl, rfl⟩;rcases Bool.eq_false_or_eq_true (rightI D) with hrd | hrd
   ·rw [hrd, show errNum true = 0 from rfl]
    obtain ⟨a, ha⟩ : ∃ a, a = valI A := ⟨_, rfl⟩;obtain ⟨b, hb⟩ : ∃ b, b = valI D := ⟨_, rfl⟩;obtain ⟨ha1, ha2⟩ := rightI_val hra;obtain ⟨hb2, hb3⟩ := rightI_val hrd;have HQ3 : Hid (rightQ l = fitB a b) := by unfold Hid; rw [HQ2.out, hra, hrd, ha, hb]; rfl
    have eA : BS A = IS a := by rw [ha1, ha]; rfl
    have eD : BS D = IS b := by rw [hb2, hb]; rfl
    rw [eA] at ha2 ⊢;rw [eD] at hb3 ⊢;clear ha hb ha1 hb2 eA eD hra hrd HCA HCD HQ HQ2 HC hc2 HCUT HFN hsA hsD;have HCMP : ∀ w, Hid (Calls Tryz.prog 110 #[.string (IS b), .string ⟨#[49]⟩] w (Same (fun v => v = .int .i64 (cmpZ b 1)) w)) := fun w => by
     have h := compare_any b 1 (by omega) (by rw [IS_one]; decide) w;rw [IS_one] at h; exact h
    by_cases hb1' : 1 < b
    ·have HZ : Hid (cmpZ b 1 = 1) := cmpZ_gt hb1'
     have h8 := IS_eq48 a;by_cases ha0 : a = 0
     ·rw [decide_eq_true ha0] at h8
      have HE := hid (err_bad (l := l) (by rw [HQ3.out]; unfold fitB; rw [decide_eq_true ha0]; simp));clear hb1' ha0;go_wp2_with fail;refine (HCMP _).out.mono ?_;rintro e w2 ⟨_, rfl, rfl, rfl⟩;rw [HZ.out];go_wp2_with fail;go_ret;exact ⟨_, rfl, congrArg (Value.int .i64) HE.out, hb1⟩
     ·rw [decide_eq_false ha0] at h8
      have hgb := hg.below hb1;have HG := hid (gcd_any a b (by omega) (by omega) _ hgb);obtain ⟨g, hgg⟩ : ∃ g : Int, g = (Int.gcd a b : Nat) := ⟨_, rfl⟩;rw [<- hgg] at HG;have h9 := IS_eq49 g;have h9' := IS_ne49 g;by_cases hg1 : g = 1
      ·rw [decide_eq_true hg1] at h9 h9'
       rw [Bool.not_true] at h9';have HE := hid (err_ok (l := l) (by rw [HQ3.out]; unfold fitB; rw [decide_eq_true hb1', decide_eq_false ha0, decide_eq_true (by omega)]; rfl));clear hb1' ha0 hg1 hgg;go_wp2_with fail;refine (HCMP _).out.mono ?_;rintro e w2 ⟨_, rfl, rfl, rfl⟩;rw [HZ.out];go_wp2_with fail;refine HG.out.mono ?_;rintro e w3 ⟨_, rfl, rfl, hb4⟩;go_wp2_with fail;go_ret;exact ⟨_, rfl, congrArg (Value.int .i64) HE.out, hb1.trans (hb4.mono hb1.size)⟩
      ·rw [decide_eq_false hg1] at h9 h9'
       rw [Bool.not_false] at h9';have HE := hid (err_bad (l := l) (by rw [HQ3.out]; unfold fitB; rw [decide_eq_false (p := Int.gcd a b = 1) (by omega)]; simp));clear hb1' ha0 hg1 hgg;go_wp2_with fail;refine (HCMP _).out.mono ?_;rintro e w2 ⟨_, rfl, rfl, rfl⟩;rw [HZ.out];go_wp2_with fail;refine HG.out.mono ?_;rintro e w3 ⟨_, rfl, rfl, hb4⟩;go_wp2_with fail;go_ret;exact ⟨_, rfl, congrArg (Value.int .i64) HE.out, hb1.trans (hb4.mono hb1.size)⟩
    ·have HZ : ∃ z, z <= 0 /\ Hid (cmpZ b 1 = z) := ⟨cmpZ b 1, by unfold cmpZ; rw [if_neg hb1']; split <;> omega, rfl⟩
     obtain ⟨z, hz, HZ⟩ := HZ;have HE := hid (err_bad (l := l) (by rw [HQ3.out]; unfold fitB; rw [decide_eq_false hb1']; rfl));clear hb1';go_wp2_with fail;refine (HCMP _).out.mono ?_;rintro e w2 ⟨_, rfl, rfl, rfl⟩;rw [HZ.out];go_wp2_with fail;go_ret;exact ⟨_, rfl, congrArg (Value.int .i64) HE.out, hb1⟩
   ·have HF : Hid (rightQ l = false) := by unfold Hid; rw [HQ2.out, hrd]; simp
    rw [hrd, show errNum false = 2 from rfl];have HE := hid (err_bad HF.out);go_wp2_with fail;go_ret;exact ⟨_, rfl, congrArg (Value.int .i64) HE.out, hb1⟩
  ·have HF : Hid (rightQ l = false) := by unfold Hid; rw [HQ2.out, hra]; rfl
   rw [hra, show errNum false = 2 from rfl];have HE := hid (err_bad HF.out);go_wp2_with fail;go_ret;exact ⟨_, rfl, congrArg (Value.int .i64) HE.out, hb1⟩
theorem rightI_of {n : Int} (h : n.natAbs < 10 ^ 200) : rightI (itoa n) = true := by
 unfold rightI;rw [canonB_itoa, itoa_trim, Bool.true_and];exact decide_eq_true ((len_decDigits_le _ 200 (by omega)).2 h)
theorem rightQ_RL {q : Rat} (h : Sz 200 q) : rightQ (RL q) = true := by
 unfold rightQ;rw [fst47_RL, rightI_of h.1, Bool.true_and, snd47_RL];by_cases hd : q.den = 1
 ·rw [RL_idx_one hd]; rfl
 ·have e : decDigits q.den = itoa (q.den : Int) := (itoa_nat q.den).symm
  rw [e, valI_itoa, valI_itoa, rightI_of (n := (q.den : Int)) h.2, Bool.true_and];have hp := q.den_pos;have hg : Int.gcd q.num (q.den : Int) = 1 := q.reduced;have hn : q.num ≠ 0 := by
   intro e0;rw [e0] at hg;have : Int.gcd 0 (q.den : Int) = q.den := by simp
   omega
  unfold fitB;rw [decide_eq_true (by omega : (1 : Int) < (q.den : Int)), decide_eq_false hn, decide_eq_true hg];simp
theorem RdS.open {w : World} {v : Value} {l : List ByteArray} (h : RdS w v l) : ∃ p c, v = .slice p l.length c /\ l.length <= c /\ c <= maxLen /\
 (l ≠ [] -> ∃ b off, p = some ⟨b, off, none⟩ /\ b < w.heap.size /\ ∀ (i : Nat) (hi : i < l.length), w.cell? ⟨b, off + i, none⟩ = some (.string l[i])) := by
 obtain ⟨p, c, hv, h1, h2, h3, h4⟩ := h;refine ⟨p, c, hv, h1, h2, fun hne => ?_⟩;obtain ⟨b, off, hp, hc⟩ := h4 (by simpa using hne);have hcell : ∀ (i : Nat) (hi : i < l.length), w.cell? ⟨b, off + i, none⟩ = some (.string l[i]) := fun i hi => hc i _ (by simp [hi])
 have h0 : 0 < l.length := List.length_pos_iff.2 hne;exact ⟨b, off, hp, World.block_lt_of_cell? w _ (hcell 0 h0), hcell⟩
def allQ (l : List ByteArray) : Bool := l.all fun s => rightQ s.data.toList
theorem allQ_step (l : List ByteArray) (i : Nat) (h : i < l.length) : allQ (l.drop i) = (rightQ l[i].data.toList && allQ (l.drop (i + 1))) := by
 rw [List.drop_eq_getElem_cons h]; rfl
theorem numbers_any (l : List ByteArray) (hlen : l.length <= 1000000) (hl : ∀ s ∈ l, s.size < 1000000000) (v : Value) (w : World) (hr : RdS w v l) (hg : Good w) :
 Calls Tryz.prog 73 #[v] w (Ret (fun r _ => r = .int .i64 (errNum (allQ l))) w) := by
 obtain ⟨p, c, rfl, hlc, hcm, hr'⟩ := hr.open;clear hr;have HL := hid hl;have HR := hid hr';clear hl hr';go_enter Tryz.func73, Tryz.ntmps73;go_wp2_with fail;go_loopw [8] (fun t8 wr => ∃ (i : Nat), t8 = .int .i64 i /\ i <= l.length /\ Hid (allQ l = allQ (l.drop i)) /\ Below w.heap.size w wr) (fun t8 _ => l.length - (RowKit.intOf t8).toNat)
 case atStart => exact ⟨0, rfl, Nat.zero_le _, rfl, Below.refl _ _⟩
 case round =>
  obtain ⟨i, rfl, hi, HS, hbl⟩ := hrel;rcases Nat.lt_or_ge i l.length with h | h
  ·obtain ⟨b, off, rfl, hbs, hcell⟩ := HR.out (by intro e; rw [e] at h; simp at h)
   have hc : wr.cell? ⟨b, off + i, none⟩ = some (.string l[i]) := (zcq hbl hbs (hcell i h) :);have hzx := HL.out l[i] (List.getElem_mem h);have hst := HS.out.trans (allQ_step l i h);obtain ⟨x, hx⟩ : ∃ x, x = l[i] := ⟨_, rfl⟩;rw [<- hx] at hc hzx hst;have HST := hid hst;have hgr := hg.below hbl;clear hx hst hcell HS;go_wp2_with fail;refine (checkQ_any x hzx _ hgr).mono ?_;rintro e w2 ⟨_, rfl, rfl, hb2⟩;have hb3 := hbl.trans (hb2.mono hbl.size);clear hb2 hgr;rcases Bool.eq_false_or_eq_true (rightQ x.data.toList) with hq | hq
   ·have HN : Hid (allQ l = allQ (l.drop (i + 1))) := by unfold Hid; rw [HST.out, hq]; rfl
    rw [hq, show errNum true = 0 from rfl];clear hq HST;go_wp2_with fail;go_roundw
    case rel => exact ⟨i + 1, by go_num, h, HN, hb3⟩
    case measure => simp [RowKit.intOf]; omega
   ·have HN : Hid (2 = errNum (allQ l)) := by unfold Hid; rw [HST.out, hq]; rfl
    rw [hq, show errNum false = 2 from rfl];clear hq HST;go_wp2_with fail;go_ret;exact ⟨_, rfl, congrArg (Value.int .i64) HN.out, hb3⟩
  ·have HF : Hid (0 = errNum (allQ l)) := by unfold Hid; rw [HS.out, List.drop_of_length_le h]; rfl
   clear HS;go_wp2_with fail;go_ret;exact ⟨_, rfl, congrArg (Value.int .i64) HF.out, hbl⟩
theorem RdS.fresh (w : World) (xs : List ByteArray) (ty : Nat) (cs : Array Value) (hcs : cs.toList = xs.map fun x => Value.string x) (hl : xs.length <= 1000) (n : Nat) (hn : n = xs.length) (g : Nat) (hgs : g = w.heap.size) :
 RdS (w.alloc (Obj.cells cs ty)) (.slice (some ⟨g, 0, none⟩) n n) xs := by
 subst hn hgs;refine ⟨some ⟨w.heap.size, 0, none⟩, xs.length, rfl, Nat.le_refl _, Nat.le_trans hl (by decide), by simp, fun _ => ⟨w.heap.size, 0, rfl, fun i x hx => ?_⟩⟩;rw [World.cell?_alloc_at _ _ _ _ rfl];rw [<- hcs] at hx;simpa using hx
theorem checkPoint_any (x y : ByteArray) (hx : x.size < 1000000000) (hy : y.size < 1000000000) (w : World) (hg : Good w) :
 Calls Tryz.prog 32 #[.agg #[.string x, .string y]] w (Ret (fun r _ => r = .int .i64 (errNum (allQ [x, y]))) w) := by
 go_enter Tryz.func32, Tryz.ntmps32;go_wp2_with fail;have hb0 : Below w.heap.size w ((w.alloc (Obj.cells #[Value.string x, Value.string y] 50)).alloc (Obj.cells #[Value.string x, Value.string y] 40)) :=
  ((Below.refl _ _).alloc (Nat.le_refl _) _).alloc (by simp) _
 refine (numbers_any [x, y] (by simp) (by simp; exact ⟨hx, hy⟩) _ _ (RdS.fresh _ _ _ _ rfl (by simp) _ rfl _ (by simp)) ((hg.alloc _).alloc _)).mono ?_;rintro e w2 ⟨_, rfl, rfl, hb2⟩;go_wp2_with fail;go_ret;exact ⟨_, rfl, rfl, hb0.trans (hb2.mono hb0.size)⟩
end Go.Proofs.YtbfcmipplhkkeaaGreatDoor
