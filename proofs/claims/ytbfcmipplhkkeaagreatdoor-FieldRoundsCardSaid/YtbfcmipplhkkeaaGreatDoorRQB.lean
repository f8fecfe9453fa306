import Derived.Test.YtbfcmipplhkkeaaGreatDoorRQA
/- Klipperef02: Mul to Div; rational: join, Mul, Add, Neg, Sign, Sub. -/
set_option maxHeartbeats 1000000
set_option maxRecDepth 100000
namespace Go.Proofs.YtbfcmipplhkkeaaGreatDoor
open Go.RowKit Go.Lib
theorem Sz.num_size {k : Nat} {q : Rat} (h : Sz k q) (hk : 0 < k) : (IS q.num).size <= k + 1 := by
 rw [IS_size]; exact itoa_len_le hk h.1
theorem Sz.den_size {k : Nat} {q : Rat} (h : Sz k q) (hk : 0 < k) : (IS (q.den : Int)).size <= k + 1 := by
 rw [IS_size]; exact itoa_len_le hk h.2
theorem Sz.size {k : Nat} {q : Rat} (h : Sz k q) (hk : 0 < k) : (RS q).size <= 2 * k + 2 := by
 rw [RS_size]; exact RL_len_le hk h
theorem mul_size {a b : Int} {j k : Nat} (hj : 0 < j) (hk : 0 < k) (ha : (IS a).size <= j) (hb : (IS b).size <= k) : (IS (a * b)).size <= j + k + 1 := by
 rw [IS_size] at *;have h1 := natAbs_lt_of_len hj ha;have h2 := natAbs_lt_of_len hk hb;refine itoa_len_le (k := j + k) (by omega) ?_;rw [Int.natAbs_mul]; exact pow_add_lt h1 h2
theorem add_size {a b : Int} {k : Nat} (hk : 0 < k) (ha : (IS a).size <= k) (hb : (IS b).size <= k) : (IS (a + b)).size <= k + 2 := by
 rw [IS_size] at *;have h1 := natAbs_lt_of_len hk ha;have h2 := natAbs_lt_of_len hk hb;refine itoa_len_le (k := k + 1) (by omega) ?_;rw [Nat.pow_succ];omega
theorem prod_lim {x y : Int} (hx : -1000000000 < x /\ x < 1000000000) (hy : -1000000000 < y /\ y < 1000000000) : -1000000000000000000 < x * y /\ x * y < 1000000000000000000 := by
 have h : (x * y).natAbs < 1000000000 * 1000000000 := by
  rw [Int.natAbs_mul];exact Nat.mul_lt_mul'' (by omega) (by omega)
 omega
theorem mulQ_any (p q : Rat) (k : Nat) (hk : 0 < k) (hk2 : k <= 20000) (hp : Sz k p) (hq : Sz k q) (w : World) (hg : Good w) :
 Calls Tryz.prog 97 #[.string (RS p), .string (RS q)] w (Ret (fun v _ => v = .string (RS (p * q))) w) := by
 have hsp := hp.size hk;have hsq := hq.size hk;have hpn := hp.num_size hk;have hqn := hq.num_size hk;have hpd := hp.den_size hk;have hqd := hq.den_size hk;have HM : Hid (mkRat (p.num * q.num) (p.den * q.den) = p * q) := by unfold Hid; rw [Rat.mul_def']
 have hd : 0 < p.den * q.den := Nat.mul_pos p.den_pos q.den_pos;have HD : Hid ((p.den : Int) * (q.den : Int) = ((p.den * q.den : Nat) : Int)) := by unfold Hid; omega
 have HMN := hid (mul_size (j := k + 1) (k := k + 1) (by omega) (by omega) hpn hqn);have HMD := hid (mul_size (j := k + 1) (k := k + 1) (by omega) (by omega) hpd hqd);clear hp hq;go_enter Tryz.func97, Tryz.ntmps97;go_wp2_with fail;refine ((briefQ_any p (by omega) _).mono fun _ _ h => h.ret).mono ?_;rintro e w1 ⟨_, rfl, ⟨x, y, one, rfl, hx⟩, hb1⟩;rcases Bool.eq_false_or_eq_true one with h1 | h1
 case' inl =>
  subst h1;obtain ⟨hx1, hx2, hx3, hx4⟩ := hx rfl;have HX1 := hid hx1;have HX2 := hid hx2;clear hx hx1 hx2;go_wp2_with fail;refine ((briefQ_any q (by omega) _).mono fun _ _ h => h.ret).mono ?_;rintro e w2 ⟨_, rfl, ⟨x2, y2, two, rfl, hy⟩, hb2⟩;have hb3 : Below w.heap.size w w2 := hb1.trans (hb2.mono hb1.size);clear hb1 hb2;rcases Bool.eq_false_or_eq_true two with h2 | h2
 ·subst h2
  obtain ⟨hy1, hy2, hy3, hy4⟩ := hy rfl;clear hy;have hl1 := prod_lim hx3 hy3;have hl2 := prod_lim (x := y) (y := y2) (by omega) (by omega);have HE := hid (lowestQ_any (x * x2) (p.den * q.den) (y * y2) (by rw [HX2.out, hy2]; exact HD.out) hd (by omega) (by omega) w2 (hg.below hb3));have HR : Hid (mkRat (x * x2) (p.den * q.den) = p * q) := by unfold Hid; rw [HX1.out, hy1]; exact HM.out
  clear hy1 hy2;go_wp2_with fail;refine HE.out.mono ?_;rintro e w3 ⟨_, rfl, rfl, hb4⟩;rw [HR.out];go_wp2_with fail;go_ret;exact ⟨_, rfl, rfl, hb3.trans (hb4.mono hb3.size)⟩
 all_goals
  first
  | subst h2
    clear hy HX1 HX2 hx3 hx4
  | subst h1
    clear hx;have hb3 := hb1;clear hb1
  go_upto_region 6 with fail
 all_goals
  have hg3 := hg.below hb3;go_wp2_with fail;refine ((partsRQ_any p (by omega) _).mono fun _ _ h => h.ret).mono ?_;rintro e w4 ⟨_, rfl, rfl, hb4⟩;have hb5 := hb3.trans (hb4.mono hb3.size);clear hb3 hb4 hg3;go_wp2_with fail;refine ((partsRQ_any q (by omega) _).mono fun _ _ h => h.ret).mono ?_;rintro e w5 ⟨_, rfl, rfl, hb4⟩;have hb6 := hb5.trans (hb4.mono hb5.size);clear hb5 hb4;have hg6 := hg.below hb6;go_wp2_with fail;refine (mulR_any p.num q.num (by omega) (by omega) _ hg6).mono ?_;rintro e w6 ⟨_, rfl, rfl, hb4⟩;have hb7 := hb6.trans (hb4.mono hb6.size);clear hb6 hb4 hg6;have hg7 := hg.below hb7;go_wp2_with fail;refine (mulR_any (p.den : Int) (q.den : Int) (by omega) (by omega) _ hg7).mono ?_;rintro e w7 ⟨_, rfl, rfl, hb4⟩;have hb8 := hb7.trans (hb4.mono hb7.size);clear hb7 hb4 hg7;have hg8 := hg.below hb8;go_wp2_with fail;refine (fractionQ_any (p.num * q.num) ((p.den : Int) * (q.den : Int)) (p.num * q.num) (p.den * q.den) _ HD.out hd (by have := HMN.out; omega) (by have := HMD.out; omega) (.inl ⟨rfl, rfl⟩) _ hg8).mono ?_;rintro e w8 ⟨_, rfl, rfl, hb4⟩;rw [HM.out];go_wp2_with fail;go_ret;exact ⟨_, rfl, rfl, hb8.trans (hb4.mono hb8.size)⟩
theorem addQ_any (p q : Rat) (k : Nat) (hk : 0 < k) (hk2 : k <= 20000) (hp : Sz k p) (hq : Sz k q) (w : World) (hg : Good w) :
 Calls Tryz.prog 95 #[.string (RS p), .string (RS q)] w (Ret (fun v _ => v = .string (RS (p + q))) w) := by
 have hsp := hp.size hk;have hsq := hq.size hk;have hpn := hp.num_size hk;have hqn := hq.num_size hk;have hpd := hp.den_size hk;have hqd := hq.den_size hk;have HM : Hid (mkRat (p.num * (q.den : Int) + q.num * (p.den : Int)) (p.den * q.den) = p + q) := by unfold Hid; rw [Rat.add_def']
 have hd : 0 < p.den * q.den := Nat.mul_pos p.den_pos q.den_pos;have HD : Hid ((p.den : Int) * (q.den : Int) = ((p.den * q.den : Nat) : Int)) := by unfold Hid; omega
 have HM1 := hid (mul_size (j := k + 1) (k := k + 1) (by omega) (by omega) hpn hqd);have HM2 := hid (mul_size (j := k + 1) (k := k + 1) (by omega) (by omega) hqn hpd);have HMN := hid (add_size (k := 2 * k + 3) (by omega) (a := p.num * (q.den : Int)) (b := q.num * (p.den : Int)) (by have := HM1.out; omega) (by have := HM2.out; omega));have HMD := hid (mul_size (j := k + 1) (k := k + 1) (by omega) (by omega) hpd hqd);clear hp hq;go_enter Tryz.func95, Tryz.ntmps95;go_wp2_with fail;refine ((briefQ_any p (by omega) _).mono fun _ _ h => h.ret).mono ?_;rintro e w1 ⟨_, rfl, ⟨x, y, one, rfl, hx⟩, hb1⟩;rcases Bool.eq_false_or_eq_true one with h1 | h1
 case' inl =>
  subst h1;obtain ⟨hx1, hx2, hx3, hx4⟩ := hx rfl;have HX1 := hid hx1;have HX2 := hid hx2;clear hx hx1 hx2;go_wp2_with fail;refine ((briefQ_any q (by omega) _).mono fun _ _ h => h.ret).mono ?_;rintro e w2 ⟨_, rfl, ⟨x2, y2, two, rfl, hy⟩, hb2⟩;have hb3 : Below w.heap.size w w2 := hb1.trans (hb2.mono hb1.size);clear hb1 hb2;rcases Bool.eq_false_or_eq_true two with h2 | h2
 ·subst h2
  obtain ⟨hy1, hy2, hy3, hy4⟩ := hy rfl;clear hy;have hl1 := prod_lim (x := x) (y := y2) (by omega) (by omega);have hl3 := prod_lim (x := x2) (y := y) (by omega) (by omega);have hl2 := prod_lim (x := y) (y := y2) (by omega) (by omega);have HE := hid (lowestQ_any (x * y2 + x2 * y) (p.den * q.den) (y * y2) (by rw [HX2.out, hy2]; exact HD.out) hd (by omega) (by omega) w2 (hg.below hb3));have HR : Hid (mkRat (x * y2 + x2 * y) (p.den * q.den) = p + q) := by unfold Hid; rw [HX1.out, hy1, HX2.out, hy2]; exact HM.out
  clear hy1 hy2;go_wp2_with fail;refine HE.out.mono ?_;rintro e w3 ⟨_, rfl, rfl, hb4⟩;rw [HR.out];go_wp2_with fail;go_ret;exact ⟨_, rfl, rfl, hb3.trans (hb4.mono hb3.size)⟩
 all_goals
  first
  | subst h2
    clear hy HX1 HX2 hx3 hx4
  | subst h1
    clear hx;have hb3 := hb1;clear hb1
  go_upto_region 6 with fail
 all_goals
  have hg3 := hg.below hb3;go_wp2_with fail;refine ((partsRQ_any p (by omega) _).mono fun _ _ h => h.ret).mono ?_;rintro e w4 ⟨_, rfl, rfl, hb4⟩;have hb5 := hb3.trans (hb4.mono hb3.size);clear hb3 hb4 hg3;go_wp2_with fail;refine ((partsRQ_any q (by omega) _).mono fun _ _ h => h.ret).mono ?_;rintro e w5 ⟨_, rfl, rfl, hb4⟩;have hb6 := hb5.trans (hb4.mono hb5.size);clear hb5 hb4;have hg6 := hg.below hb6;go_wp2_with fail;refine (mulR_any p.num (q.den : Int) (by omega) (by omega) _ hg6).mono ?_;rintro e w61 ⟨_, rfl, rfl, hb4⟩;have hb61 := hb6.trans (hb4.mono hb6.size);clear hb6 hb4 hg6;have hg61 := hg.below hb61;go_wp2_with fail;refine (mulR_any q.num (p.den : Int) (by omega) (by omega) _ hg61).mono ?_;rintro e w62 ⟨_, rfl, rfl, hb4⟩;have hb62 := hb61.trans (hb4.mono hb61.size);clear hb61 hb4 hg61;have hg62 := hg.below hb62;go_wp2_with fail;refine (addR_any (p.num * (q.den : Int)) (q.num * (p.den : Int)) (by have := HM1.out; omega) (by have := HM2.out; omega) _ hg62).mono ?_;rintro e w6 ⟨_, rfl, rfl, hb4⟩;have hb7 := hb62.trans (hb4.mono hb62.size);clear hb62 hb4 hg62;have hg7 := hg.below hb7;go_wp2_with fail;refine (mulR_any (p.den : Int) (q.den : Int) (by omega) (by omega) _ hg7).mono ?_;rintro e w7 ⟨_, rfl, rfl, hb4⟩;have hb8 := hb7.trans (hb4.mono hb7.size);clear hb7 hb4 hg7;have hg8 := hg.below hb8;go_wp2_with fail;refine (fractionQ_any (p.num * (q.den : Int) + q.num * (p.den : Int)) ((p.den : Int) * (q.den : Int)) (p.num * (q.den : Int) + q.num * (p.den : Int)) (p.den * q.den) _ HD.out hd (by have := HMN.out; omega) (by have := HMD.out; omega) (.inl ⟨rfl, rfl⟩) _ hg8).mono ?_;rintro e w8 ⟨_, rfl, rfl, hb4⟩;rw [HM.out];go_wp2_with fail;go_ret;exact ⟨_, rfl, rfl, hb8.trans (hb4.mono hb8.size)⟩
theorem RS_eq48 (q : Rat) : ((RS q).toList == [48]) = decide (q = 0) := by rw [ba_toList, RS_list, RL_eq48]
theorem RS_pos (q : Rat) : 0 < (RS q).size := by rw [RS_size]; exact RL_len_pos q
theorem RS_head (q : Rat) (h : 0 < (RS q).size) : (RS q)[0].toNat = 45 ↔ q.num < 0 := by
 obtain ⟨b0, n1, L⟩ := lies_of q;rw [L.sign h, L.neg]
def cmpQ (a b : Rat) : Int := if a < b then -1 else if b < a then 1 else 0
theorem sub_num_sign (a b : Rat) : (a - b).num.sign = cmpQ a b := by
 have e1 : (a - b).num < 0 ↔ a < b := by
  rw [num_lt_zero_iff];constructor
  ·intro h; have := (Rat.add_lt_add_right (c := b)).2 h; rwa [Rat.sub_eq_add_neg, Rat.add_assoc, Rat.neg_add_cancel, Rat.add_zero, Rat.zero_add] at this
  ·intro h; refine (Rat.add_lt_add_right (c := b)).1 ?_; rwa [Rat.sub_eq_add_neg, Rat.add_assoc, Rat.neg_add_cancel, Rat.add_zero, Rat.zero_add]
 have e2 : 0 < (a - b).num ↔ b < a := by
  rw [num_pos_iff];constructor
  ·intro h; have := (Rat.add_lt_add_right (c := b)).2 h; rwa [Rat.sub_eq_add_neg, Rat.add_assoc, Rat.neg_add_cancel, Rat.add_zero, Rat.zero_add] at this
  ·intro h; refine (Rat.add_lt_add_right (c := b)).1 ?_; rwa [Rat.sub_eq_add_neg, Rat.add_assoc, Rat.neg_add_cancel, Rat.add_zero, Rat.zero_add]
 unfold cmpQ;by_cases h1 : a < b
 ·rw [if_pos h1]; exact Int.sign_eq_neg_one_of_neg (e1.2 h1)
 ·rw [if_neg h1]
  by_cases h2 : b < a
  ·rw [if_pos h2]; exact Int.sign_eq_one_of_pos (e2.2 h2)
  ·rw [if_neg h2]
   have h3 := mt e1.1 h1;have h4 := mt e2.1 h2;rw [show (a - b).num = 0 by omega]; rfl
theorem inv_mkRat (q : Rat) (_h : q.num ≠ 0) : ∃ n : Int, ((q.num = (q.num.natAbs : Int) /\ (q.den : Int) = n) \/ (q.num = -(q.num.natAbs : Int) /\ (q.den : Int) = -n)) /\ mkRat n q.num.natAbs = q⁻¹ := by
 rw [Rat.inv_def];rcases Int.lt_or_le q.num 0 with h1 | h1
 ·refine ⟨-(q.den : Int), .inr ⟨by omega, by omega⟩, ?_⟩
  obtain ⟨m, hm⟩ : ∃ m : Nat, q.num = -(m : Int) := ⟨q.num.natAbs, by omega⟩;rw [hm, Rat.divInt_neg'];simp [Rat.divInt_ofNat, Int.natAbs_neg]
 ·refine ⟨(q.den : Int), .inl ⟨by omega, rfl⟩, ?_⟩
  obtain ⟨m, hm⟩ : ∃ m : Nat, q.num = (m : Int) := ⟨q.num.natAbs, by omega⟩;rw [hm];simp [Rat.divInt_ofNat]
theorem signQ_any (q : Rat) (w : World) :
 Calls Tryz.prog 50 #[.string (RS q)] w (Drawn (fun v => v = .int .i64 q.num.sign) w) := by
 have h8 := RS_eq48 q;have hs0 := RS_pos q;have hh := RS_head q hs0;have hz := @Rat.num_eq_zero q;generalize RS q = s at *;obtain ⟨c0, hc0⟩ : ∃ c0 : Nat, s[0].toNat = c0 := ⟨_, rfl⟩;rw [hc0] at hh;rcases Int.lt_trichotomy q.num 0 with h | h | h
 ·have hs : Hid (q.num.sign = -1) := Int.sign_eq_neg_one_of_neg h
  have t1 : ((c0 : Int) == 45) = true := by rw [beq_iff_eq]; have := hh.2 h; omega
  rw [decide_eq_false (fun e => by have := hz.2 e; omega)] at h8;clear hh hz h;go_enter Tryz.func50, Tryz.ntmps50;go_wp2_with fail;go_ret;exact ⟨_, rfl, congrArg (Value.int .i64) hs.out.symm, dr_zero _⟩
 ·have hs : Hid (q.num.sign = 0) := by unfold Hid; rw [h]; rfl
  rw [decide_eq_true (hz.1 h)] at h8;clear hh hz h;go_enter Tryz.func50, Tryz.ntmps50;go_wp2_with fail;go_ret;exact ⟨_, rfl, congrArg (Value.int .i64) hs.out.symm, dr_zero _⟩
 ·have hs : Hid (q.num.sign = 1) := Int.sign_eq_one_of_pos h
  have t1 : ((c0 : Int) == 45) = false := by rw [beq_eq_false_iff_ne]; intro e; have := hh.1 (by omega); omega
  rw [decide_eq_false (fun e => by have := hz.2 e; omega)] at h8;clear hh hz h;go_enter Tryz.func50, Tryz.ntmps50;go_wp2_with fail;go_ret;exact ⟨_, rfl, congrArg (Value.int .i64) hs.out.symm, dr_zero _⟩
theorem negQ_any (q : Rat) (hsz : (RS q).size <= 100000) (w : World) :
 Calls Tryz.prog 96 #[.string (RS q)] w (Drawn (fun v => v = .string (RS (-q))) w) := by
 have h8 := RS_eq48 q;have hs0 := RS_pos q;have hh := RS_head q hs0;have hz := @Rat.num_eq_zero q;obtain ⟨s, hs⟩ : ∃ s, s = RS q := ⟨_, rfl⟩;have HS := hid hs;simp only [<- hs] at h8 hs0 hh hsz ⊢;obtain ⟨c0, hc0⟩ : ∃ c0 : Nat, s[0].toNat = c0 := ⟨_, rfl⟩;rw [hc0] at hh;clear hs;rcases Int.lt_trichotomy q.num 0 with h | h | h
 ·have t1 : ((c0 : Int) == 45) = true := by rw [beq_iff_eq]; have := hh.2 h; omega
  rw [decide_eq_false (fun e => by have := hz.2 e; omega)] at h8;have HR : Hid (s.extract 1 s.size = RS (-q)) := by
   unfold Hid;apply ba_ext;rw [ba_drop, BS_list, HS.out, RS_list, RS_list, RL_neg q h]
  clear hh hz h;go_enter Tryz.func96, Tryz.ntmps96;go_wp2_with fail;go_ret;exact ⟨_, rfl, congrArg Value.string HR.out, dr_zero _⟩
 ·have hR : Hid (s = RS (-q)) := by unfold Hid; rw [HS.out, hz.1 h]; rfl
  rw [decide_eq_true (hz.1 h)] at h8;clear hh hz h;go_enter Tryz.func96, Tryz.ntmps96;go_wp2_with fail;go_ret;exact ⟨_, rfl, congrArg Value.string hR.out, dr_zero _⟩
 ·have t1 : ((c0 : Int) == 45) = false := by rw [beq_eq_false_iff_ne]; intro e; have := hh.1 (by omega); omega
  rw [decide_eq_false (fun e => by have := hz.2 e; omega)] at h8;have HR : Hid ((⟨#[45]⟩ : ByteArray) ++ s = RS (-q)) := by
   unfold Hid;apply ba_ext; rw [ba_append, HS.out, RS_list, RS_list, <- RL_pos q h]; rfl
  clear hh hz h;go_enter Tryz.func96, Tryz.ntmps96;go_wp2_with fail;go_ret;exact ⟨_, rfl, congrArg Value.string HR.out, dr_zero _⟩
theorem subQ_any (p q : Rat) (k : Nat) (hk : 0 < k) (hk2 : k <= 20000) (hp : Sz k p) (hq : Sz k q) (w : World) (hg : Good w) :
 Calls Tryz.prog 49 #[.string (RS p), .string (RS q)] w (Ret (fun v _ => v = .string (RS (p - q))) w) := by
 have hsz : (RS q).size <= 100000 := Nat.le_trans (hq.size hk) (by omega);have HE : Hid (p + -q = p - q) := by unfold Hid; rw [Rat.sub_eq_add_neg]
 have HP := hid hp;have HQ := hid hq.neg;clear hp hq;go_enter Tryz.func49, Tryz.ntmps49;go_wp2_with fail;refine ((negQ_any q hsz _).mono fun _ _ h => h.ret).mono ?_;rintro e w1 ⟨_, rfl, rfl, hb1⟩;go_wp2_with fail;refine (addQ_any p (-q) k hk hk2 HP.out HQ.out _ (hg.below hb1)).mono ?_;rintro e w2 ⟨_, rfl, rfl, hb2⟩;rw [HE.out];go_wp2_with fail;go_ret;exact ⟨_, rfl, rfl, hb1.trans (hb2.mono hb1.size)⟩
theorem compareQ_any (p q : Rat) (k : Nat) (hk : 0 < k) (hk2 : k <= 20000) (hp : Sz k p) (hq : Sz k q) (w : World) (hg : Good w) :
 Calls Tryz.prog 82 #[.string (RS p), .string (RS q)] w (Ret (fun v _ => v = .int .i64 (cmpQ p q)) w) := by
 have HE := hid (sub_num_sign p q);have HP := hid hp;have HQ := hid hq;clear hp hq;go_enter Tryz.func82, Tryz.ntmps82;go_wp2_with fail;refine (subQ_any p q k hk hk2 HP.out HQ.out _ hg).mono ?_;rintro e w1 ⟨_, rfl, rfl, hb1⟩;go_wp2_with fail;refine ((signQ_any (p - q) _).mono fun _ _ h => h.ret).mono ?_;rintro e w2 ⟨_, rfl, rfl, hb2⟩;rw [HE.out];go_wp2_with fail;go_ret;exact ⟨_, rfl, rfl, hb1.trans (hb2.mono hb1.size)⟩
theorem joinQ_any (x y : Int) (S : ByteArray) (hS : (y = 1 -> IS x = S) /\ (y ≠ 1 -> (IS x ++ ⟨#[47]⟩) ++ IS y = S)) (hsx : (IS x).size <= 100000) (hsy : (IS y).size <= 100000) (w : World) :
 Calls Tryz.prog 124 #[.string (IS x), .string (IS y)] w (Same (fun v => v = .string S) w) := by
 have hy9 := IS_eq49 y;by_cases hy1 : y = 1
 ·have HF := hid (hS.1 hy1)
  rw [decide_eq_true hy1] at hy9;clear hy1 hS;go_enter Tryz.func124, Tryz.ntmps124;go_wp2_with fail;go_ret;exact ⟨_, rfl, congrArg Value.string HF.out, rfl⟩
 ·have HF := hid (hS.2 hy1)
  rw [decide_eq_false hy1] at hy9;clear hy1 hS;go_enter Tryz.func124, Tryz.ntmps124;go_wp2_with fail;go_ret;exact ⟨_, rfl, congrArg Value.string HF.out, rfl⟩
theorem lowestI_any (a b n : Int) (d : Nat) (dz : Int) (hdz : dz = (d : Int)) (hd : 0 < d) (hsa : (IS a).size <= 90000) (hsb : (IS b).size <= 90000)
 (hab : (b = dz /\ a = n) \/ (b = -dz /\ a = -n)) (w : World) (hg : Good w) :
 Calls Tryz.prog 132 #[.string (IS a), .string (IS b)] w (Ret (fun v _ => v = .string (RS (mkRat n d))) w) := by
 obtain ⟨G, hG⟩ : ∃ G, G = Nat.gcd n.natAbs d := ⟨_, rfl⟩;obtain ⟨hGp, hGd, hG1, hG2, hG3⟩ := gcd_fact hd hG;have hGC : Hid (((Int.gcd n dz : Nat) : Int) = (G : Int)) := by unfold Hid; rw [hG, hdz]; rfl
 obtain ⟨x, hx⟩ : ∃ x, x = n / (G : Int) := ⟨_, rfl⟩;obtain ⟨y, hy⟩ : ∃ y : Int, y = dz / (G : Int) := ⟨_, rfl⟩;have hyn : y = ((d / G : Nat) : Int) := by rw [hy, hdz]; rfl
 have HRS := hid (RS_mkRat hd hG (x := x) (by rw [hx, hG1]) hyn);have hsn : (IS n).size <= 90001 := by
  rcases hab with ⟨_, h⟩ | ⟨_, h⟩
  ·rw [<- h]; omega
  ·rw [show n = -a by omega]; exact neg_size hsa
 have hsd : (IS dz).size <= 90001 := by
  rcases hab with ⟨h, _⟩ | ⟨h, _⟩
  ·rw [<- h]; omega
  ·rw [show dz = -b by omega]; exact neg_size hsb
 have hsG : (IS (G : Int)).size <= 90001 := nat_size_mono hGd (by rw [<- hdz]; exact hsd) (by omega);have hsx : (IS x).size <= 90002 := IS_size_mono (by rw [hx]; exact hG2) hsn (by omega);have hsy : (IS y).size <= 90002 := IS_size_mono (n := dz) (by rw [hyn, hdz]; exact Nat.div_le_self d G) hsd (by omega);have hd0 : 0 < dz := by omega
 obtain ⟨gz, hgz⟩ : ∃ gz : Int, gz = (G : Int) := ⟨_, rfl⟩;rw [<- hgz] at hGC hx hy hsG;have hG0 : Hid (gz ≠ 0) := by unfold Hid; omega
 have hg9 := IS_ne49 gz;have hg8 := IS_eq49 gz;have H1 : Hid (gz = 1 -> x = n /\ y = dz) := fun e => by rw [hx, hy, e, Int.ediv_one, Int.ediv_one]; exact ⟨rfl, rfl⟩
 have HX := hid hx;have HY := hid hy;clear hG hG1 hG2 hG3 hGp hGd hyn hdz hx hy hgz;rcases hab with ⟨e1, e2⟩ | ⟨e1, e2⟩
 case' inl =>
  have e1 := e1.symm;have e2 := e2.symm;subst e1 e2;have hbn : ¬ dz < 0 := by omega
  go_enter Tryz.func132, Tryz.ntmps132;go_wp2_with fail;refine (sign_any dz _).mono ?_;rintro e w1 ⟨_, rfl, rfl, rfl⟩;go_upto_region 3 with fail
 case' inr =>
  have hbn : b < 0 := by omega
  have E1 : Hid (-b = dz) := by unfold Hid; omega
  have E2 : Hid (-a = n) := by unfold Hid; omega
  clear e1 e2;go_enter Tryz.func132, Tryz.ntmps132;go_wp2_with fail;refine (sign_any b _).mono ?_;rintro e w0 ⟨_, rfl, rfl, rfl⟩;go_wp2_with fail;refine (neg_any a (by omega) _).mono ?_;rintro e w02 ⟨_, rfl, rfl, rfl⟩;rw [E2.out];go_wp2_with fail;refine (neg_any b (by omega) _).mono ?_;rintro e w1 ⟨_, rfl, rfl, rfl⟩;rw [E1.out];go_upto_region 3 with fail
 all_goals
  go_wp2_with fail;refine (gcd_any n dz (by omega) (by omega) _ hg).mono ?_;rintro e w2 ⟨_, rfl, rfl, hb3⟩;rw [hGC.out];have hgb2 := hg.below hb3;by_cases hg1 : gz = 1
  ·obtain ⟨ex, ey⟩ := H1.out hg1
   rw [decide_eq_true hg1] at hg9 hg8;rw [Bool.not_true] at hg9;have HJ := hid (joinQ_any n dz (RS (mkRat n d)) (by have h := HRS.out; rw [ex, ey] at h; exact h) (by omega) (by omega) w2);clear hg1 ex ey;go_wp2_with fail;refine HJ.out.mono ?_;rintro e w3 ⟨_, rfl, rfl, rfl⟩;go_wp2_with fail;go_ret;exact ⟨_, rfl, rfl, hb3⟩
  ·rw [decide_eq_false hg1] at hg9 hg8
   rw [Bool.not_false] at hg9;clear hg1;go_wp2_with fail;refine (divmod_any n gz (by omega) (by omega) hG0.out _ hgb2).mono ?_;rintro e w3 ⟨_, rfl, rfl, hb4⟩;rw [<- HX.out];have hgb3 := hgb2.below hb4;have hb5 := hb3.trans (hb4.mono hb3.size);clear hb3 hb4;go_wp2_with fail;refine (divmod_any dz gz (by omega) (by omega) hG0.out _ hgb3).mono ?_;rintro e w4 ⟨_, rfl, rfl, hb6⟩;rw [<- HY.out];have hb7 := hb5.trans (hb6.mono hb5.size);clear hb5 hb6;go_wp2_with fail;refine (joinQ_any x y (RS (mkRat n d)) HRS.out (by omega) (by omega) w4).mono ?_;rintro e w5 ⟨_, rfl, rfl, rfl⟩;go_wp2_with fail;go_ret;exact ⟨_, rfl, rfl, hb7⟩
theorem RS_eq49 (q : Rat) : ((RS q).toList == [49]) = decide (q = 1) := by rw [ba_toList, RS_list, RL_eq49]
theorem ratMul_any (p q : Rat) (k : Nat) (hk : 0 < k) (hk2 : k <= 20000) (hp : Sz k p) (hq : Sz k q) (w : World) (hg : Good w) :
 Calls Tryz.prog 80 #[.string (RS p), .string (RS q)] w (Ret (fun v _ => v = .string (RS (p * q))) w) := by
 have hsp := hp.size hk;have hsq := hq.size hk;have hpn := hp.num_size hk;have hqn := hq.num_size hk;have hpd := hp.den_size hk;have hqd := hq.den_size hk;have HM : Hid (mkRat (p.num * q.num) (p.den * q.den) = p * q) := by unfold Hid; rw [Rat.mul_def']
 have hd : 0 < p.den * q.den := Nat.mul_pos p.den_pos q.den_pos;have HD : Hid ((p.den : Int) * (q.den : Int) = ((p.den * q.den : Nat) : Int)) := by unfold Hid; omega
 have HMN := hid (mul_size (j := k + 1) (k := k + 1) (by omega) (by omega) hpn hqn);have HMD := hid (mul_size (j := k + 1) (k := k + 1) (by omega) (by omega) hpd hqd);clear hp hq;have p8 := RS_eq48 p;have q8 := RS_eq48 q;have p9 := RS_eq49 p;have q9 := RS_eq49 q;by_cases hp0 : p = 0
 ·rw [decide_eq_true hp0] at p8
  have HF : Hid ((⟨#[48]⟩ : ByteArray) = RS (p * q)) := by unfold Hid; rw [hp0, Rat.zero_mul, RS_zero]
  clear hp0 p9 q9 q8;go_enter Tryz.func80, Tryz.ntmps80;go_wp2_with fail;go_ret;exact ⟨_, rfl, congrArg Value.string HF.out, Below.refl _ _⟩
 rw [decide_eq_false hp0] at p8;clear hp0;by_cases hq0 : q = 0
 ·rw [decide_eq_true hq0] at q8
  have HF : Hid ((⟨#[48]⟩ : ByteArray) = RS (p * q)) := by unfold Hid; rw [hq0, Rat.mul_zero, RS_zero]
  clear hq0 p9 q9;go_enter Tryz.func80, Tryz.ntmps80;go_wp2_with fail;go_ret;exact ⟨_, rfl, congrArg Value.string HF.out, Below.refl _ _⟩
 rw [decide_eq_false hq0] at q8;clear hq0;by_cases hp1 : p = 1
 ·rw [decide_eq_true hp1] at p9
  have HF : Hid (RS q = RS (p * q)) := by unfold Hid; rw [hp1, Rat.one_mul]
  clear hp1 q9;go_enter Tryz.func80, Tryz.ntmps80;go_wp2_with fail;go_ret;exact ⟨_, rfl, congrArg Value.string HF.out, Below.refl _ _⟩
 rw [decide_eq_false hp1] at p9;clear hp1;by_cases hq1 : q = 1
 ·rw [decide_eq_true hq1] at q9
  have HF : Hid (RS p = RS (p * q)) := by unfold Hid; rw [hq1, Rat.mul_one]
  clear hq1;go_enter Tryz.func80, Tryz.ntmps80;go_wp2_with fail;go_ret;exact ⟨_, rfl, congrArg Value.string HF.out, Below.refl _ _⟩
 rw [decide_eq_false hq1] at q9;clear hq1;go_enter Tryz.func80, Tryz.ntmps80;go_wp2_with fail;refine (quickQ_any p (by omega) _).mono ?_;rintro e w1 ⟨_, rfl, ⟨x, y, one, rfl, hx⟩, rfl⟩;rcases Bool.eq_false_or_eq_true one with h1 | h1
 case' inl =>
  subst h1;obtain ⟨hx1, hx2, hx3, hx4⟩ := hx rfl;have HX1 := hid hx1;have HX2 := hid hx2;clear hx hx1 hx2;go_wp2_with fail;refine (quickQ_any q (by omega) _).mono ?_;rintro e w2 ⟨_, rfl, ⟨x2, y2, two, rfl, hy⟩, rfl⟩;rcases Bool.eq_false_or_eq_true two with h2 | h2
 ·subst h2
  obtain ⟨hy1, hy2, hy3, hy4⟩ := hy rfl;clear hy;have hl1 := prod_lim hx3 hy3;have hl2 := prod_lim (x := y) (y := y2) (by omega) (by omega);have HE := hid (smallQ_any (x * x2) (p.den * q.den) (y * y2) (by rw [HX2.out, hy2]; exact HD.out) hd (by omega) (by omega) w hg);have HR : Hid (mkRat (x * x2) (p.den * q.den) = p * q) := by unfold Hid; rw [HX1.out, hy1]; exact HM.out
  clear hy1 hy2;go_wp2_with fail;refine HE.out.mono ?_;rintro e w3 ⟨_, rfl, rfl, hb4⟩;rw [HR.out];go_wp2_with fail;go_ret;exact ⟨_, rfl, rfl, hb4⟩
 all_goals
  first
  | subst h2
    clear hy HX1 HX2 hx3 hx4
  | subst h1
    clear hx
  go_upto_region 13 with fail
 all_goals
  go_wp2_with fail;refine ((parts_rat p (by omega) _ hg).mono fun _ _ h => h.ret).mono ?_;rintro e w4 ⟨_, rfl, rfl, hb4⟩;have hb5 := hb4;have hg5 := hg.below hb5;clear hb4;go_wp2_with fail;refine ((parts_rat q (by omega) _ hg5).mono fun _ _ h => h.ret).mono ?_;rintro e w5 ⟨_, rfl, rfl, hb4⟩;have hb6 := hb5.trans (hb4.mono hb5.size);clear hb5 hb4;have hg6 := hg.below hb6;go_wp2_with fail;refine (mul_any p.num q.num (by omega) (by omega) _ hg6).mono ?_;rintro e w6 ⟨_, rfl, rfl, hb4⟩;have hb7 := hb6.trans (hb4.mono hb6.size);clear hb6 hb4 hg6;have hg7 := hg.below hb7;go_wp2_with fail;refine (mul_any (p.den : Int) (q.den : Int) (by omega) (by omega) _ hg7).mono ?_;rintro e w7 ⟨_, rfl, rfl, hb4⟩;have hb8 := hb7.trans (hb4.mono hb7.size);clear hb7 hb4 hg7;have hg8 := hg.below hb8;go_wp2_with fail;refine (lowestI_any (p.num * q.num) ((p.den : Int) * (q.den : Int)) (p.num * q.num) (p.den * q.den) _ HD.out hd (by have := HMN.out; omega) (by have := HMD.out; omega) (.inl ⟨rfl, rfl⟩) _ hg8).mono ?_;rintro e w8 ⟨_, rfl, rfl, hb4⟩;rw [HM.out];go_wp2_with fail;go_ret;exact ⟨_, rfl, rfl, hb8.trans (hb4.mono hb8.size)⟩
theorem ratAdd_any (p q : Rat) (k : Nat) (hk : 0 < k) (hk2 : k <= 20000) (hp : Sz k p) (hq : Sz k q) (w : World) (hg : Good w) :
 Calls Tryz.prog 100 #[.string (RS p), .string (RS q)] w (Ret (fun v _ => v = .string (RS (p + q))) w) := by
 have hsp := hp.size hk;have hsq := hq.size hk;have hpn := hp.num_size hk;have hqn := hq.num_size hk;have hpd := hp.den_size hk;have hqd := hq.den_size hk;have HM : Hid (mkRat (p.num * (q.den : Int) + q.num * (p.den : Int)) (p.den * q.den) = p + q) := by unfold Hid; rw [Rat.add_def']
 have hd : 0 < p.den * q.den := Nat.mul_pos p.den_pos q.den_pos;have HD : Hid ((p.den : Int) * (q.den : Int) = ((p.den * q.den : Nat) : Int)) := by unfold Hid; omega
 have HM1 := hid (mul_size (j := k + 1) (k := k + 1) (by omega) (by omega) hpn hqd);have HM2 := hid (mul_size (j := k + 1) (k := k + 1) (by omega) (by omega) hqn hpd);have HMN := hid (add_size (k := 2 * k + 3) (by omega) (a := p.num * (q.den : Int)) (b := q.num * (p.den : Int)) (by have := HM1.out; omega) (by have := HM2.out; omega));have HMD := hid (mul_size (j := k + 1) (k := k + 1) (by omega) (by omega) hpd hqd);clear hp hq;have p8 := RS_eq48 p;have q8 := RS_eq48 q;by_cases hp0 : p = 0
 ·rw [decide_eq_true hp0] at p8
  have HF : Hid (RS q = RS (p + q)) := by unfold Hid; rw [hp0, Rat.zero_add]
  clear hp0 q8;go_enter Tryz.func100, Tryz.ntmps100;go_wp2_with fail;go_ret;exact ⟨_, rfl, congrArg Value.string HF.out, Below.refl _ _⟩
 rw [decide_eq_false hp0] at p8;clear hp0;by_cases hq0 : q = 0
 ·rw [decide_eq_true hq0] at q8
  have HF : Hid (RS p = RS (p + q)) := by unfold Hid; rw [hq0, Rat.add_zero]
  clear hq0;go_enter Tryz.func100, Tryz.ntmps100;go_wp2_with fail;go_ret;exact ⟨_, rfl, congrArg Value.string HF.out, Below.refl _ _⟩
 rw [decide_eq_false hq0] at q8;clear hq0;go_enter Tryz.func100, Tryz.ntmps100;go_wp2_with fail;refine (quickQ_any p (by omega) _).mono ?_;rintro e w1 ⟨_, rfl, ⟨x, y, one, rfl, hx⟩, rfl⟩;rcases Bool.eq_false_or_eq_true one with h1 | h1
 case' inl =>
  subst h1;obtain ⟨hx1, hx2, hx3, hx4⟩ := hx rfl;have HX1 := hid hx1;have HX2 := hid hx2;clear hx hx1 hx2;go_wp2_with fail;refine (quickQ_any q (by omega) _).mono ?_;rintro e w2 ⟨_, rfl, ⟨x2, y2, two, rfl, hy⟩, rfl⟩;rcases Bool.eq_false_or_eq_true two with h2 | h2
 ·subst h2
  obtain ⟨hy1, hy2, hy3, hy4⟩ := hy rfl;clear hy;have hl1 := prod_lim (x := x) (y := y2) (by omega) (by omega);have hl3 := prod_lim (x := x2) (y := y) (by omega) (by omega);have hl2 := prod_lim (x := y) (y := y2) (by omega) (by omega);have HE := hid (smallQ_any (x * y2 + x2 * y) (p.den * q.den) (y * y2) (by rw [HX2.out, hy2]; exact HD.out) hd (by omega) (by omega) w hg);have HR : Hid (mkRat (x * y2 + x2 * y) (p.den * q.den) = p + q) := by unfold Hid; rw [HX1.out, hy1, HX2.out, hy2]; exact HM.out
  clear hy1 hy2;go_wp2_with fail;refine HE.out.mono ?_;rintro e w3 ⟨_, rfl, rfl, hb4⟩;rw [HR.out];go_wp2_with fail;go_ret;exact ⟨_, rfl, rfl, hb4⟩
 all_goals
  first
  | subst h2
    clear hy HX1 HX2 hx3 hx4
  | subst h1
    clear hx
  go_upto_region 10 with fail
 all_goals
  go_wp2_with fail;refine ((parts_rat p (by omega) _ hg).mono fun _ _ h => h.ret).mono ?_;rintro e w4 ⟨_, rfl, rfl, hb4⟩;have hb5 := hb4;have hg5 := hg.below hb5;clear hb4;go_wp2_with fail;refine ((parts_rat q (by omega) _ hg5).mono fun _ _ h => h.ret).mono ?_;rintro e w5 ⟨_, rfl, rfl, hb4⟩;have hb6 := hb5.trans (hb4.mono hb5.size);clear hb5 hb4;have hg6 := hg.below hb6;go_wp2_with fail;refine (mul_any p.num (q.den : Int) (by omega) (by omega) _ hg6).mono ?_;rintro e w61 ⟨_, rfl, rfl, hb4⟩;have hb61 := hb6.trans (hb4.mono hb6.size);clear hb6 hb4 hg6;have hg61 := hg.below hb61;go_wp2_with fail;refine (mul_any q.num (p.den : Int) (by omega) (by omega) _ hg61).mono ?_;rintro e w62 ⟨_, rfl, rfl, hb4⟩;have hb62 := hb61.trans (hb4.mono hb61.size);clear hb61 hb4 hg61;have hg62 := hg.below hb62;go_wp2_with fail;refine (add_any (p.num * (q.den : Int)) (q.num * (p.den : Int)) (by have := HM1.out; omega) (by have := HM2.out; omega) _ hg62).mono ?_;rintro e w6 ⟨_, rfl, rfl, hb4⟩;have hb7 := hb62.trans (hb4.mono hb62.size);clear hb62 hb4 hg62;have hg7 := hg.below hb7;go_wp2_with fail;refine (mul_any (p.den : Int) (q.den : Int) (by omega) (by omega) _ hg7).mono ?_;rintro e w7 ⟨_, rfl, rfl, hb4⟩;have hb8 := hb7.trans (hb4.mono hb7.size);clear hb7 hb4 hg7;have hg8 := hg.below hb8;go_wp2_with fail;refine (lowestI_any (p.num * (q.den : Int) + q.num * (p.den : Int)) ((p.den : Int) * (q.den : Int)) (p.num * (q.den : Int) + q.num * (p.den : Int)) (p.den * q.den) _ HD.out hd (by have := HMN.out; omega) (by have := HMD.out; omega) (.inl ⟨rfl, rfl⟩) _ hg8).mono ?_;rintro e w8 ⟨_, rfl, rfl, hb4⟩;rw [HM.out];go_wp2_with fail;go_ret;exact ⟨_, rfl, rfl, hb8.trans (hb4.mono hb8.size)⟩
theorem ratNeg_any (q : Rat) (hsz : (RS q).size <= 100000) (w : World) :
 Calls Tryz.prog 121 #[.string (RS q)] w (Drawn (fun v => v = .string (RS (-q))) w) := by
 have h8 := RS_eq48 q;have hs0 := RS_pos q;have hh := RS_head q hs0;have hz := @Rat.num_eq_zero q;obtain ⟨s, hs⟩ : ∃ s, s = RS q := ⟨_, rfl⟩;have HS := hid hs;simp only [<- hs] at h8 hs0 hh hsz ⊢;obtain ⟨c0, hc0⟩ : ∃ c0 : Nat, s[0].toNat = c0 := ⟨_, rfl⟩;rw [hc0] at hh;clear hs;rcases Int.lt_trichotomy q.num 0 with h | h | h
 ·have t1 : ((c0 : Int) == 45) = true := by rw [beq_iff_eq]; have := hh.2 h; omega
  rw [decide_eq_false (fun e => by have := hz.2 e; omega)] at h8;have HR : Hid (s.extract 1 s.size = RS (-q)) := by
   unfold Hid;apply ba_ext;rw [ba_drop, BS_list, HS.out, RS_list, RS_list, RL_neg q h]
  clear hh hz h;go_enter Tryz.func121, Tryz.ntmps121;go_wp2_with fail;go_ret;exact ⟨_, rfl, congrArg Value.string HR.out, dr_zero _⟩
 ·have hR : Hid (s = RS (-q)) := by unfold Hid; rw [HS.out, hz.1 h]; rfl
  rw [decide_eq_true (hz.1 h)] at h8;clear hh hz h;go_enter Tryz.func121, Tryz.ntmps121;go_wp2_with fail;go_ret;exact ⟨_, rfl, congrArg Value.string hR.out, dr_zero _⟩
 ·have t1 : ((c0 : Int) == 45) = false := by rw [beq_eq_false_iff_ne]; intro e; have := hh.1 (by omega); omega
  rw [decide_eq_false (fun e => by have := hz.2 e; omega)] at h8;have HR : Hid ((⟨#[45]⟩ : ByteArray) ++ s = RS (-q)) := by
   unfold Hid;apply ba_ext; rw [ba_append, HS.out, RS_list, RS_list, <- RL_pos q h]; rfl
  clear hh hz h;go_enter Tryz.func121, Tryz.ntmps121;go_wp2_with fail;go_ret;exact ⟨_, rfl, congrArg Value.string HR.out, dr_zero _⟩
theorem ratSign_any (q : Rat) (w : World) :
 Calls Tryz.prog 69 #[.string (RS q)] w (Drawn (fun v => v = .int .i64 q.num.sign) w) := by
 have h8 := RS_eq48 q;have hs0 := RS_pos q;have hh := RS_head q hs0;have hz := @Rat.num_eq_zero q;generalize RS q = s at *;have hl : (0 : Int) < (s.size : Int) := by omega
 obtain ⟨c0, hc0⟩ : ∃ c0 : Nat, s[0].toNat = c0 := ⟨_, rfl⟩;rw [hc0] at hh;rcases Int.lt_trichotomy q.num 0 with h | h | h
 ·have hs : Hid (q.num.sign = -1) := Int.sign_eq_neg_one_of_neg h
  have t1 : ((c0 : Int) == 45) = true := by rw [beq_iff_eq]; have := hh.2 h; omega
  rw [decide_eq_false (fun e => by have := hz.2 e; omega)] at h8;clear hh hz h;go_enter Tryz.func69, Tryz.ntmps69;go_wp2_with fail;go_ret;exact ⟨_, rfl, congrArg (Value.int .i64) hs.out.symm, dr_zero _⟩
 ·have hs : Hid (q.num.sign = 0) := by unfold Hid; rw [h]; rfl
  rw [decide_eq_true (hz.1 h)] at h8;clear hh hz h;go_enter Tryz.func69, Tryz.ntmps69;go_wp2_with fail;go_ret;exact ⟨_, rfl, congrArg (Value.int .i64) hs.out.symm, dr_zero _⟩
 ·have hs : Hid (q.num.sign = 1) := Int.sign_eq_one_of_pos h
  have t1 : ((c0 : Int) == 45) = false := by rw [beq_eq_false_iff_ne]; intro e; have := hh.1 (by omega); omega
  rw [decide_eq_false (fun e => by have := hz.2 e; omega)] at h8;clear hh hz h;go_enter Tryz.func69, Tryz.ntmps69;go_wp2_with fail;go_ret;exact ⟨_, rfl, congrArg (Value.int .i64) hs.out.symm, dr_zero _⟩
theorem ratSub_any (p q : Rat) (k : Nat) (hk : 0 < k) (hk2 : k <= 20000) (hp : Sz k p) (hq : Sz k q) (w : World) (hg : Good w) :
 Calls Tryz.prog 68 #[.string (RS p), .string (RS q)] w (Ret (fun v _ => v = .string (RS (p - q))) w) := by
 have hsz : (RS q).size <= 100000 := Nat.le_trans (hq.size hk) (by omega);have HE : Hid (p + -q = p - q) := by unfold Hid; rw [Rat.sub_eq_add_neg]
 have HP := hid hp;have HQ := hid hq.neg;clear hp hq;go_enter Tryz.func68, Tryz.ntmps68;go_wp2_with fail;refine ((ratNeg_any q hsz _).mono fun _ _ h => h.ret).mono ?_;rintro e w1 ⟨_, rfl, rfl, hb1⟩;go_wp2_with fail;refine (ratAdd_any p (-q) k hk hk2 HP.out HQ.out _ (hg.below hb1)).mono ?_;rintro e w2 ⟨_, rfl, rfl, hb2⟩;rw [HE.out];go_wp2_with fail;go_ret;exact ⟨_, rfl, rfl, hb1.trans (hb2.mono hb1.size)⟩
end Go.Proofs.YtbfcmipplhkkeaaGreatDoor
