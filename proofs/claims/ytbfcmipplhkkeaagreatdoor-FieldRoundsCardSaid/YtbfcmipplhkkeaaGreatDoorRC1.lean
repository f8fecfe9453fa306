import Derived.Test.YtbfcmipplhkkeaaGreatDoorRI1
/- Klipperef01: its exported functions. -/
set_option maxHeartbeats 2000000
set_option maxRecDepth 100000
namespace Go.Proofs.YtbfcmipplhkkeaaGreatDoor
open Go.RowKit Go.Lib
theorem tup2 {a b : Bool} {s t : ByteArray} (h1 : a = b) (h2 : s = t) : Value.tuple #[.bool a, .string s] = Value.tuple #[.bool b, .string t] := by rw [h1, h2]
theorem head45 (s : ByteArray) (h : 0 < s.size) : hasPrefix s.data.toList [45] = decide (s[0].toNat = 45) := by
 have e : s.data.toList = s[0] :: s.data.toList.tail := by
  have h2 : 0 < s.data.toList.length := by rw [Array.length_toList]; exact h
  conv => lhs; rw [<- List.cons_head_tail (List.ne_nil_of_length_pos h2)]
  congr 1;rw [List.head_eq_getElem]; rfl
 rw [e];unfold hasPrefix;simp only [List.isPrefixOf, Bool.and_true];by_cases hc : s[0].toNat = 45
 ·have : s[0] = 45 := UInt8.toNat_inj.1 (by rw [hc]; rfl)
  simp [this]
 ·have : ¬ (45 : UInt8) = s[0] := fun h => hc (by rw [<- h]; rfl)
  simp [hc, this]
theorem split_any (s : ByteArray) (hs : s.size <= 1000000000000) (w : World) :
 Calls Tryz.prog 90 #[.string s] w (Drawn (fun v => v = .tuple #[.bool (hasPrefix s.data.toList [45]), .string (BS (trimPrefix s.data.toList [45]))]) w) := by
 rcases Nat.eq_zero_or_pos s.size with h0 | hpos
 ·have hnil : s.data.toList = [] := List.length_eq_zero_iff.1 (by rw [Array.length_toList]; exact h0)
  have HS : Hid (s = BS (trimPrefix s.data.toList [45]) /\ hasPrefix s.data.toList [45] = false) := by
   unfold Hid;rw [hnil];exact ⟨ba_ext (by rw [hnil]; rfl), rfl⟩
  have h1 : ¬ 0 < s.size := by omega
  have h2 : s.size <= 0 := by omega
  clear hnil h0;go_enter Tryz.func90, Tryz.ntmps90;go_wp2_with fail;go_ret2;exact ⟨_, rfl, tup2 HS.out.2.symm HS.out.1, dr_zero _⟩
 ·have hp := head45 s hpos
  obtain ⟨c0, hc0⟩ : ∃ c0 : Nat, s[0].toNat = c0 := ⟨_, rfl⟩;by_cases h45 : c0 = 45
  ·have HS : Hid (s.extract 1 s.size = BS (trimPrefix s.data.toList [45]) /\ hasPrefix s.data.toList [45] = true) := by
    unfold Hid;have h5 : hasPrefix s.data.toList [45] = true := by rw [hp, hc0]; exact decide_eq_true h45
    refine ⟨?_, h5⟩;apply ba_ext;rw [extract_to_end, BS_list];unfold trimPrefix;rw [if_pos h5]; rfl
   have t1 : ((c0 : Int) == 45) = true := by rw [beq_iff_eq]; omega
   have h1 : 1 <= s.size := hpos;clear hp h45;go_enter Tryz.func90, Tryz.ntmps90;go_wp2_with fail;go_region;go_wp2_with fail;go_ret2;exact ⟨_, rfl, tup2 HS.out.2.symm HS.out.1, dr_step ⟨0, rfl⟩ 1⟩
  ·have HS : Hid (s = BS (trimPrefix s.data.toList [45]) /\ hasPrefix s.data.toList [45] = false) := by
    unfold Hid;have h5 : hasPrefix s.data.toList [45] = false := by rw [hp, hc0]; exact decide_eq_false h45
    refine ⟨?_, h5⟩;apply ba_ext;rw [BS_list];unfold trimPrefix;rw [if_neg (by rw [h5]; simp)]
   have t1 : ((c0 : Int) == 45) = false := by rw [beq_eq_false_iff_ne]; omega
   clear hp h45;go_enter Tryz.func90, Tryz.ntmps90;go_wp2_with fail;go_ret2;exact ⟨_, rfl, tup2 HS.out.2.symm HS.out.1, dr_zero _⟩
theorem splitI_any (n : Int) (hsz : (IS n).size <= 100000) (w : World) :
 Calls Tryz.prog 90 #[.string (IS n)] w (Drawn (fun v => v = .tuple #[.bool (decide (n < 0)), .string (BS (decDigits n.natAbs))]) w) := by
 refine (split_any (IS n) (by omega) w).mono ?_;rintro e w' ⟨_, rfl, rfl, hd⟩;exact ⟨_, rfl, by rw [trim_IS, pre_IS], hd⟩
theorem ofR_any (n : Int) (h0 : -9223372036854775808 <= n) (h1 : n <= 9223372036854775807) (w : World) (hg : Good w) :
 Calls Tryz.prog 26 #[.int .i64 n] w (Ret (fun v _ => v = .string (IS n)) w) := by
 go_enter Tryz.func26, Tryz.ntmps26;go_wp2_with fail;refine (itoa_any n h0 h1 w hg).mono ?_;rintro e w' ⟨_, rfl, rfl, hb⟩;go_wp2_with fail;go_ret;exact ⟨_, rfl, rfl, hb⟩
theorem signR_any (n : Int) (hsz : (IS n).size <= 100000) (w : World) :
 Calls Tryz.prog 64 #[.string (IS n)] w (Drawn (fun v => v = .int .i64 n.sign) w) := by
 have h8 := IS_eq48 n;rcases Int.lt_trichotomy n 0 with h | h | h
 ·have hs : Hid (n.sign = -1) := Int.sign_eq_neg_one_of_neg h
  have hd : Hid (decide (n < 0) = true) := decide_eq_true h;clear h8;go_enter Tryz.func64, Tryz.ntmps64;go_wp2_with fail;refine (splitI_any n hsz _).mono ?_;rintro e w1 ⟨_, rfl, rfl, j, rfl⟩;rw [hd.out];go_wp2_with fail;go_ret;exact ⟨_, rfl, congrArg (Value.int .i64) hs.out.symm, j, rfl⟩
 ·subst h
  rw [decide_eq_true rfl] at h8;have hd : Hid (decide ((0 : Int) < 0) = false) := rfl;go_enter Tryz.func64, Tryz.ntmps64;go_wp2_with fail;refine (splitI_any 0 hsz _).mono ?_;rintro e w1 ⟨_, rfl, rfl, j, rfl⟩;rw [hd.out];go_wp2_with fail;go_ret;exact ⟨_, rfl, rfl, j, rfl⟩
 ·have hs : Hid (n.sign = 1) := Int.sign_eq_one_of_pos h
  have hd : Hid (decide (n < 0) = false) := decide_eq_false (by omega);rw [decide_eq_false (by omega)] at h8;go_enter Tryz.func64, Tryz.ntmps64;go_wp2_with fail;refine (splitI_any n hsz _).mono ?_;rintro e w1 ⟨_, rfl, rfl, j, rfl⟩;rw [hd.out];go_wp2_with fail;go_ret;exact ⟨_, rfl, congrArg (Value.int .i64) hs.out.symm, j, rfl⟩
theorem negR_any (n : Int) (hsz : (IS n).size <= 100000) (w : World) :
 Calls Tryz.prog 65 #[.string (IS n)] w (Drawn (fun v => v = .string (IS (-n))) w) := by
 have h8 := IS_eq48 n;have hD : Hid (BS (decDigits n.natAbs) = IS (n.natAbs : Int)) := by unfold Hid IS; rw [itoa_nat]; rfl
 rcases Int.lt_trichotomy n 0 with h | h | h
 ·have hs : Hid (BS (decDigits n.natAbs) = IS (-n)) := by unfold Hid; rw [hD.out]; congr 1; omega
  have hd : Hid (decide (n < 0) = true) := decide_eq_true h;clear h8;go_enter Tryz.func65, Tryz.ntmps65;go_wp2_with fail;refine (splitI_any n hsz _).mono ?_;rintro e w1 ⟨_, rfl, rfl, j, rfl⟩;rw [hd.out, hs.out];go_wp2_with fail;go_ret;exact ⟨_, rfl, rfl, j, rfl⟩
 ·subst h
  rw [decide_eq_true rfl] at h8;have hd : Hid (decide ((0 : Int) < 0) = false) := rfl;go_enter Tryz.func65, Tryz.ntmps65;go_wp2_with fail;refine (splitI_any 0 hsz _).mono ?_;rintro e w1 ⟨_, rfl, rfl, j, rfl⟩;rw [hd.out, hD.out];go_wp2_with fail;go_ret;exact ⟨_, rfl, rfl, j, rfl⟩
 ·have hd : Hid (decide (n < 0) = false) := decide_eq_false (by omega)
  rw [decide_eq_false (by omega)] at h8;have hs : Hid (BS (decDigits n.natAbs) = IS n) := by unfold Hid; rw [hD.out]; congr 1; omega
  have HR : Hid ((⟨#[45]⟩ : ByteArray) ++ IS n = IS (-n)) := by
   unfold Hid;apply ba_ext; rw [ba_append, IS_list, IS_list, <- itoa_cons_neg h]; rfl
  go_enter Tryz.func65, Tryz.ntmps65;go_wp2_with fail;refine (splitI_any n hsz _).mono ?_;rintro e w1 ⟨_, rfl, rfl, j, rfl⟩;rw [hd.out, hs.out];go_wp2_with fail;go_ret;exact ⟨_, rfl, congrArg Value.string HR.out, j, rfl⟩
theorem absR_any (n : Int) (hsz : (IS n).size <= 100000) (w : World) :
 Calls Tryz.prog 94 #[.string (IS n)] w (Drawn (fun v => v = .string (IS (n.natAbs : Int))) w) := by
 have hD : Hid (BS (decDigits n.natAbs) = IS (n.natAbs : Int)) := by unfold Hid IS; rw [itoa_nat]; rfl
 go_enter Tryz.func94, Tryz.ntmps94;go_wp2_with fail;refine (splitI_any n hsz _).mono ?_;rintro e w1 ⟨_, rfl, rfl, j, rfl⟩;rw [hD.out];go_wp2_with fail;go_ret;exact ⟨_, rfl, rfl, j, rfl⟩
theorem dec_lim {n : Nat} {k : Nat} (hk : 0 < k) (h : (decDigits n).length <= k) : n < 10 ^ k := (len_decDigits_le n k hk).1 h
theorem tup2i {a b : Int} {s t : Bool} (h1 : a = b) (h2 : s = t) : Value.tuple #[.int .i64 a, .bool s] = Value.tuple #[.int .i64 b, .bool t] := by rw [h1, h2]
theorem smallR_any (n : Int) (hl : (decDigits n.natAbs).length <= 18) (w : World) :
 Calls Tryz.prog 160 #[.string (IS n)] w (Drawn (fun v => v = .tuple #[.int .i64 n, .bool true]) w) := by
 have hsz : (IS n).size <= 100000 := by
  have := itoa_len n;rw [IS_size]; rw [decDigits_length] at hl; split at this <;> omega
 have hlim : n.natAbs < 1000000000000000000 := dec_lim (k := 18) (by decide) hl;obtain ⟨l, hlE⟩ : ∃ l, l = decDigits n.natAbs := ⟨_, rfl⟩;obtain ⟨S, hS⟩ : ∃ S, S = BS (decDigits n.natAbs) := ⟨_, rfl⟩;have hSl : S.data.toList = l := by rw [hS, BS_list, hlE]
 have hSs : S.size = l.length := by rw [hS, BS_size, hlE]
 have hdig : ∀ c ∈ S.data.toList, isDig c := by rw [hSl, hlE]; exact decDigits_dig _
 have hval : dsl S 0 S.size = n.natAbs := by
  unfold dsl;rw [List.drop_zero, List.take_of_length_le (by rw [Array.length_toList]; exact Nat.le_refl _), hSl, hlE, dval_decDigits]
 have hS18 : S.size <= 18 := by rw [hSs, hlE]; exact hl
 have hbound : Hid (∀ j, j <= 17 -> dsl S 0 j < 100000000000000000) := by
  intro j hj;unfold dsl;rw [List.drop_zero];refine Nat.lt_of_lt_of_le (dval_lt _ fun c hc => hdig c (List.mem_of_mem_take hc)) ?_;show 10 ^ _ <= 10 ^ 17;refine Nat.pow_le_pow_right (by decide) ?_;rw [List.length_take]; omega
 have HDIG := hid hdig;have HVAL := hid hval;have HS := hid hS;clear hdig hval hS hSl hSs hlE hl;obtain ⟨neg, hneg⟩ : ∃ neg, neg = decide (n < 0) := ⟨_, rfl⟩;have HNEG := hid hneg;clear hneg;go_enter Tryz.func160, Tryz.ntmps160;go_wp2_with fail;refine (splitI_any n hsz _).mono ?_;rintro e w1 ⟨_, rfl, rfl, j0, rfl⟩;rw [<- HS.out, <- HNEG.out];go_wp2_with fail;go_loop [6, 7] (fun t6 t7 => ∃ (k : Nat) (nz : Int), k <= S.size /\ t7 = .int .i64 k /\ t6 = .int .i64 nz /\ Hid (nz = -((dsl S 0 k : Nat) : Int)) /\ -1000000000000000000 < nz /\ nz <= 0) (fun _ t7 => S.size - (RowKit.intOf t7).toNat)
 case atStart => exact ⟨0, 0, Nat.zero_le _, rfl, rfl, by unfold Hid; rw [dsl_self]; rfl, by omega, by omega⟩
 case round =>
  obtain ⟨k, nz, hk, rfl, rfl, HN, hn1, hn2⟩ := hrel;rcases Nat.lt_or_ge k S.size with hlt | hge
  ·have hdg := dig_at S HDIG.out k hlt
   have hst : Hid (dsl S 0 (k + 1) = 10 * dsl S 0 k + (S[k].toNat - 48)) := dsl_step S 0 k hlt (Nat.zero_le _);obtain ⟨ck, hck⟩ : ∃ ck : Nat, S[k].toNat = ck := ⟨_, rfl⟩;have HCK := hid hck;rw [hck] at hdg;have hnb : -100000000000000000 < nz := by
    have := hbound.out k (by omega);rw [HN.out]; omega
   have hx : Hid (10 * nz - ((ck : Int) - 48) = -((dsl S 0 (k + 1) : Nat) : Int)) := by
    unfold Hid; rw [hst.out, HN.out, HCK.out]; omega
   have hx1 : -1000000000000000000 < 10 * nz - ((ck : Int) - 48) /\ 10 * nz - ((ck : Int) - 48) <= 0 := by omega
   have td : decide (nz < (-9223372036854775808 + ((ck : Int) - 48)).tdiv 10) = false := by
    have : (-9223372036854775808 + ((ck : Int) - 48)).tdiv 10 <= -900000000000000000 := by
     obtain ⟨y, hy, hy1⟩ : ∃ y : Int, -9223372036854775808 + ((ck : Int) - 48) = -y /\ 9200000000000000000 <= y := ⟨9223372036854775808 - ((ck : Int) - 48), by omega, by omega⟩;rw [hy, Int.neg_tdiv, Int.tdiv_eq_ediv_of_nonneg (by omega)];omega
    simp; omega
   clear hst;go_wp2_with fail
   go_round
   case rel => exact ⟨k + 1, _, by omega, by go_num, rfl, hx, hx1.1, hx1.2⟩
   case measure => simp [RowKit.intOf]; omega
  ·have hv : Hid (nz = -((n.natAbs : Nat) : Int)) := by
    have : k = S.size := by omega
    unfold Hid; rw [HN.out, this, HVAL.out]
   have hmin : (nz == -9223372036854775808) = false := by rw [beq_eq_false_iff_ne]; omega
   cases neg
   ·have hr : Hid (-nz = n) := by
     have := of_decide_eq_false HNEG.out.symm;unfold Hid; rw [hv.out]; omega
    go_wp2_with fail;go_ret2;exact ⟨_, rfl, tup2i hr.out rfl, j0, rfl⟩
   ·have hr : Hid (nz = n) := by
     have := of_decide_eq_true HNEG.out.symm;unfold Hid; rw [hv.out]; omega
    go_wp2_with fail;go_ret2;exact ⟨_, rfl, tup2i hr.out rfl, j0, rfl⟩
theorem briefR_any (n : Int) (hsz : (IS n).size <= 100000) (w : World) :
 Calls Tryz.prog 115 #[.string (IS n)] w (Drawn (fun v => ∃ x one, v = .tuple #[.int .i64 x, .bool one] /\ (one = true -> x = n /\ -100000000000000000 < n /\ n < 100000000000000000)) w) := by
 obtain ⟨S, hS⟩ : ∃ S, S = BS (decDigits n.natAbs) := ⟨_, rfl⟩;have hSs : S.size = (decDigits n.natAbs).length := by rw [hS, BS_size]
 have HSS := hid hSs;have HS := hid hS;have hS5 : S.size <= 100000 := by
  have := itoa_len n;rw [IS_size] at hsz;rw [hSs, decDigits_length]; split at this <;> omega
 clear hS hSs;rcases Nat.lt_or_ge 17 S.size with h | h
 ·go_enter Tryz.func115, Tryz.ntmps115
  go_wp2_with fail;refine (splitI_any n hsz _).mono ?_;rintro e w1 ⟨_, rfl, rfl, j0, rfl⟩;rw [<- HS.out];go_wp2_with fail;go_ret2;exact ⟨_, rfl, ⟨_, _, rfl, fun h => by cases h⟩, j0, rfl⟩
 ·have hl : (decDigits n.natAbs).length <= 18 := by rw [<- HSS.out]; omega
  have hlim : n.natAbs < 100000000000000000 := dec_lim (k := 17) (by decide) (by rw [<- HSS.out]; exact h);have HL := hid hl;clear hl;go_enter Tryz.func115, Tryz.ntmps115;go_wp2_with fail;refine (splitI_any n hsz _).mono ?_;rintro e w1 ⟨_, rfl, rfl, j0, rfl⟩;rw [<- HS.out];go_wp2_with fail;refine (smallR_any n HL.out _).mono ?_;rintro e w2 ⟨_, rfl, rfl, j1, rfl⟩;go_wp2_with fail;go_ret2;exact ⟨_, rfl, ⟨_, _, rfl, fun _ => ⟨rfl, by omega, by omega⟩⟩, _, rfl⟩
theorem lm4_lenk {n : Int} {k : Nat} (hk : 0 < k) (h : (IS n).size <= k) : (lm B4 n.natAbs).length <= k := by
 rw [IS_size] at h;have h1 := natAbs_lt_of_len hk h;refine lm_len_le B4 _ _ two_le_B4 (Nat.lt_of_lt_of_le h1 ?_);exact Nat.pow_le_pow_left (by decide) _
theorem lm4_len {n : Int} (h : (IS n).size <= 100000) : (lm B4 n.natAbs).length <= 100000 := lm4_lenk (by decide) h
theorem dec_size {n : Int} (h : (IS n).size <= 100000) : (BS (decDigits n.natAbs)).size <= 100000 := by
 have := itoa_len n;rw [IS_size] at h;rw [BS_size, decDigits_length]; split at this <;> omega
theorem takeI_any (k : Nat) (hs : (BS (decDigits k)).size <= 3000000) (w : World) :
 Calls Tryz.prog 117 #[.string (BS (decDigits k))] w (Ret (fun v w' => Rd .i64 w' v (lm B4 k)) w) := by
 have h := take4_any w (BS (decDigits k)) (by rw [BS_list]; exact decDigits_dig k) hs;rw [BS_list, dval_decDigits] at h;exact h.mono fun _ _ ⟨v, he, hv, hb⟩ => ⟨v, he, hv.1, hb⟩
theorem madeI_any (w : World) (m : Bool) (v : Value) (n : Nat) (h : Rd .i64 w v (lm B4 n)) (hlen : (lm B4 n).length <= 3000000) (hg : Good w) :
 Calls Tryz.prog 119 #[.bool m, v] w (Ret (fun r _ => r = .string (IS (sgn m n))) w) := by
 have h := made_any w m v (lm B4 n) (lm_lt B4 n two_le_B4) h hlen hg;rwa [lval_lm B4 n two_le_B4] at h
theorem lm4_add_len {a b n : Nat} (ha : (lm B4 a).length <= n) (hb : (lm B4 b).length <= n) : (lm B4 (a + b)).length <= n + 1 := by
 refine lm_len_le B4 _ _ two_le_B4 ?_;have h1 := Nat.lt_of_lt_of_le (lm_len_lt B4 a two_le_B4) (Nat.pow_le_pow_right (show 0 < B4 by decide) ha);have h2 := Nat.lt_of_lt_of_le (lm_len_lt B4 b two_le_B4) (Nat.pow_le_pow_right (show 0 < B4 by decide) hb);have h3 : 2 * B4 ^ n <= B4 * B4 ^ n := Nat.mul_le_mul_right _ (by decide);rw [Nat.pow_succ, Nat.mul_comm];omega
theorem lm4_mono_len {a b n : Nat} (h : a <= b) (hb : (lm B4 b).length <= n) : (lm B4 a).length <= n :=
 Nat.le_trans (lm_len_le B4 _ _ two_le_B4 (Nat.lt_of_le_of_lt h (lm_len_lt B4 b two_le_B4))) hb
theorem addR_any (a b : Int) (hsa : (IS a).size <= 100000) (hsb : (IS b).size <= 100000) (w : World) (hg : Good w) :
 Calls Tryz.prog 141 #[.string (IS a), .string (IS b)] w (Ret (fun v _ => v = .string (IS (a + b))) w) := by
 have hla := lm4_len hsa;have hlb := lm4_len hsb;have hda := dec_size hsa;have hdb := dec_size hsb;go_enter Tryz.func141, Tryz.ntmps141;go_wp2_with fail;refine ((briefR_any a hsa _).mono fun _ _ h => h.ret).mono ?_;rintro e w1 ⟨_, rfl, ⟨x, one, rfl, hx⟩, hb1⟩;go_wp2_with fail;refine ((briefR_any b hsb _).mono fun _ _ h => h.ret).mono ?_;rintro e w2 ⟨_, rfl, ⟨y, two, rfl, hy⟩, hb2⟩;have hb3 : Below w.heap.size w w2 := hb1.trans (hb2.mono hb1.size);clear hb1 hb2;rcases (by cases one <;> cases two <;> simp : (one = true /\ two = true) \/ (one = false) \/ (one = true /\ two = false)) with ⟨h1, h2⟩ | h1 | ⟨h1, h2⟩
 ·obtain ⟨rfl, k1⟩ := hx h1
  obtain ⟨rfl, k2⟩ := hy h2;subst h1;subst h2;go_wp2_with fail;refine (ofR_any (x + y) (by omega) (by omega) _ (hg.below hb3)).mono ?_;rintro e w3 ⟨_, rfl, rfl, hb4⟩;go_wp2_with fail;go_ret;exact ⟨_, rfl, rfl, hb3.trans (hb4.mono hb3.size)⟩
 case' inr.inl =>
  subst h1
 case' inr.inr =>
  subst h1;subst h2
 all_goals
  clear hx hy;obtain ⟨ma, hma⟩ : ∃ ma, ma = decide (a < 0) := ⟨_, rfl⟩;obtain ⟨mb, hmb⟩ : ∃ mb, mb = decide (b < 0) := ⟨_, rfl⟩;have HMA := hid hma;have HMB := hid hmb;clear hma hmb;go_wp2_with fail;refine ((splitI_any a hsa _).mono fun _ _ h => h.ret).mono ?_;rintro e w3 ⟨_, rfl, rfl, hb4⟩;have hb5 := hb3.trans (hb4.mono hb3.size);clear hb3 hb4;rw [<- HMA.out];go_wp2_with fail;refine ((splitI_any b hsb _).mono fun _ _ h => h.ret).mono ?_;rintro e w4 ⟨_, rfl, rfl, hb4⟩;have hb6 := hb5.trans (hb4.mono hb5.size);clear hb5 hb4;rw [<- HMB.out];go_wp2_with fail;refine (takeI_any a.natAbs (by omega) _).mono ?_;rintro e w5 ⟨va, rfl, hra, hb4⟩;have hb7 := hb6.trans (hb4.mono hb6.size);clear hb6 hb4;obtain ⟨pa, ca, rfl, hca, hma2, hra'⟩ := hra.open;clear hra';go_wp2_with fail;refine (takeI_any b.natAbs (by omega) _).mono ?_;rintro e w6 ⟨vb, rfl, hrb, hb4⟩;have hb8 := hb7.trans (hb4.mono hb7.size);obtain ⟨pb, cb, rfl, hcb, hmb2, hrb'⟩ := hrb.open;have HRA := hid (RdC.below hra hb4);have HRB := hid hrb;clear hb7 hb4 hra hrb hrb';have hg6 := hg.below hb8;by_cases hab : ma = mb
  ·subst hab
   have t1 : (ma == ma) = true := by simp
   have HV : Hid (sgn ma (a.natAbs + b.natAbs) = a + b) := by
    unfold Hid sgn;have h1 := HMA.out;have h2 := HMB.out;cases ma
    ·have := of_decide_eq_false h1.symm
     have := of_decide_eq_false h2.symm;simp; omega
    ·have := of_decide_eq_true h1.symm
     have := of_decide_eq_true h2.symm;simp; omega
   have hl9 : (lm B4 (a.natAbs + b.natAbs)).length <= 3000000 := by have := lm4_add_len hla hlb; omega
   go_wp2_with fail;refine (joined4_any _ _ _ a.natAbs b.natAbs (a.natAbs + b.natAbs) 1 HRA.out HRB.out (by omega) (by omega) (by omega) (by omega)).mono ?_;rintro e w7 ⟨v7, rfl, ⟨hv7, _⟩, hb9⟩;obtain ⟨p7, c7, rfl, hc7, hm7, hr7⟩ := hv7.open;clear hr7;go_wp2_with fail;refine (madeI_any _ ma _ (a.natAbs + b.natAbs) hv7 hl9 (hg6.below hb9)).mono ?_;rintro e w8 ⟨_, rfl, rfl, hb10⟩;rw [HV.out];go_wp2_with fail;go_ret;exact ⟨_, rfl, rfl, hb8.trans ((hb9.trans (hb10.mono hb9.size)).mono hb8.size)⟩
  ·have t1 : (ma == mb) = false := by simpa using hab
   have hmm : mb = !ma := by cases ma <;> cases mb <;> simp at hab <;> rfl
   have HMM := hid hmm;clear hmm;rcases Nat.lt_or_ge a.natAbs b.natAbs with hlt | hge
   ·have HLT := hid hlt
    have HD : Hid (decide (a.natAbs < b.natAbs) = true) := decide_eq_true hlt;have HV : Hid (sgn mb (b.natAbs - a.natAbs) = a + b) := by
     unfold Hid sgn;have h1 := HMA.out;have h2 := HMB.out;rw [HMM.out] at h2 ⊢;cases ma
     ·have := of_decide_eq_false h1.symm
      have := of_decide_eq_true h2.symm;simp; omega
     ·have := of_decide_eq_true h1.symm
      have := of_decide_eq_false h2.symm;simp; omega
    have hl9 : (lm B4 (b.natAbs - a.natAbs)).length <= 3000000 := by have := lm4_mono_len (Nat.sub_le b.natAbs a.natAbs) hlb; omega
    clear hlt;go_wp2_with fail;refine ((less4_any _ _ _ a.natAbs b.natAbs HRA.out HRB.out).mono fun _ _ h => h.ret).mono ?_;rintro e w7 ⟨_, rfl, rfl, hb9⟩;rw [HD.out];go_wp2_with fail;refine (joined4_any _ _ _ b.natAbs a.natAbs (b.natAbs - a.natAbs) (-1) (RdC.below HRB.out hb9) (RdC.below HRA.out hb9) (by omega) (by have := HLT.out; omega) (by omega) (by omega)).mono ?_;rintro e w8 ⟨v7, rfl, ⟨hv7, _⟩, hb10⟩;obtain ⟨p7, c7, rfl, hc7, hm7, hr7⟩ := hv7.open;clear hr7;have hb11 := hb9.trans (hb10.mono hb9.size);clear hb9 hb10;go_wp2_with fail;refine (madeI_any _ mb _ (b.natAbs - a.natAbs) hv7 hl9 (hg6.below hb11)).mono ?_;rintro e w9 ⟨_, rfl, rfl, hb12⟩;rw [HV.out];go_wp2_with fail;go_ret;exact ⟨_, rfl, rfl, hb8.trans ((hb11.trans (hb12.mono hb11.size)).mono hb8.size)⟩
   ·have HLT := hid hge
    have HD : Hid (decide (a.natAbs < b.natAbs) = false) := decide_eq_false (by omega);have HV : Hid (sgn ma (a.natAbs - b.natAbs) = a + b) := by
     unfold Hid sgn;have h1 := HMA.out;have h2 := HMB.out;rw [HMM.out] at h2;cases ma
     ·have := of_decide_eq_false h1.symm
      have := of_decide_eq_true h2.symm;simp; omega
     ·have := of_decide_eq_true h1.symm
      have := of_decide_eq_false h2.symm;simp; omega
    have hl9 : (lm B4 (a.natAbs - b.natAbs)).length <= 3000000 := by have := lm4_mono_len (Nat.sub_le a.natAbs b.natAbs) hla; omega
    clear hge;go_wp2_with fail;refine ((less4_any _ _ _ a.natAbs b.natAbs HRA.out HRB.out).mono fun _ _ h => h.ret).mono ?_;rintro e w7 ⟨_, rfl, rfl, hb9⟩;rw [HD.out];go_wp2_with fail;refine (joined4_any _ _ _ a.natAbs b.natAbs (a.natAbs - b.natAbs) (-1) (RdC.below HRA.out hb9) (RdC.below HRB.out hb9) (by omega) (by have := HLT.out; omega) (by omega) (by omega)).mono ?_;rintro e w8 ⟨v7, rfl, ⟨hv7, _⟩, hb10⟩;obtain ⟨p7, c7, rfl, hc7, hm7, hr7⟩ := hv7.open;clear hr7;have hb11 := hb9.trans (hb10.mono hb9.size);clear hb9 hb10;go_wp2_with fail;refine (madeI_any _ ma _ (a.natAbs - b.natAbs) hv7 hl9 (hg6.below hb11)).mono ?_;rintro e w9 ⟨_, rfl, rfl, hb12⟩;rw [HV.out];go_wp2_with fail;go_ret;exact ⟨_, rfl, rfl, hb8.trans ((hb11.trans (hb12.mono hb11.size)).mono hb8.size)⟩
theorem neg_size {n : Int} {k : Nat} (h : (IS n).size <= k) : (IS (-n)).size <= k + 1 := by
 have h1 := itoa_len n;have h2 := itoa_len (-n);rw [IS_size] at h ⊢;rw [Int.natAbs_neg] at h2;split at h1 <;> split at h2 <;> omega
theorem lm4_mul_len {a b n m : Nat} (ha : (lm B4 a).length <= n) (hb : (lm B4 b).length <= m) : (lm B4 (a * b)).length <= n + m := by
 refine lm_len_le B4 _ _ two_le_B4 ?_;have h1 := Nat.lt_of_lt_of_le (lm_len_lt B4 a two_le_B4) (Nat.pow_le_pow_right (show 0 < B4 by decide) ha);have h2 := Nat.lt_of_lt_of_le (lm_len_lt B4 b two_le_B4) (Nat.pow_le_pow_right (show 0 < B4 by decide) hb);rw [Nat.pow_add];exact Nat.mul_lt_mul_of_lt_of_le h1 (Nat.le_of_lt h2) (by have := Nat.pow_pos (n := m) (show 0 < B4 by decide); omega)
theorem mul_len18 {a b : Int} (h : (BS (decDigits a.natAbs)).size + (BS (decDigits b.natAbs)).size <= 18) : -1000000000000000000 < a * b /\ a * b < 1000000000000000000 := by
 rw [BS_size, BS_size] at h;have h1 := dec_lim (n := a.natAbs) (List.length_pos_iff.2 (decDigits_ne_nil _)) (Nat.le_refl _);have h2 := dec_lim (n := b.natAbs) (List.length_pos_iff.2 (decDigits_ne_nil _)) (Nat.le_refl _);have h3 : a.natAbs * b.natAbs < 10 ^ 18 := by
  refine Nat.lt_of_lt_of_le (Nat.mul_lt_mul_of_lt_of_le h1 (Nat.le_of_lt h2) (Nat.lt_of_le_of_lt (Nat.zero_le _) h2)) ?_;rw [<- Nat.pow_add];exact Nat.pow_le_pow_right (by decide) h
 rw [<- Int.natAbs_mul] at h3;have h4 : (10 : Nat) ^ 18 = 1000000000000000000 := by decide
 omega
theorem mulR_any (a b : Int) (hsa : (IS a).size <= 100000) (hsb : (IS b).size <= 100000) (w : World) (hg : Good w) :
 Calls Tryz.prog 144 #[.string (IS a), .string (IS b)] w (Ret (fun v _ => v = .string (IS (a * b))) w) := by
 have hla := lm4_len hsa;have hlb := lm4_len hsb;have hda := dec_size hsa;have hdb := dec_size hsb;obtain ⟨ma, hma⟩ : ∃ ma, ma = decide (a < 0) := ⟨_, rfl⟩;obtain ⟨mb, hmb⟩ : ∃ mb, mb = decide (b < 0) := ⟨_, rfl⟩;have HMA := hid hma;have HMB := hid hmb;have HV : Hid (sgn (ma != mb) (a.natAbs * b.natAbs) = a * b) := sgn_mul hma hmb;clear hma hmb;go_enter Tryz.func144, Tryz.ntmps144;go_wp2_with fail;refine ((splitI_any a hsa _).mono fun _ _ h => h.ret).mono ?_;rintro e w3 ⟨_, rfl, rfl, hb3⟩;rw [<- HMA.out];go_wp2_with fail;refine ((splitI_any b hsb _).mono fun _ _ h => h.ret).mono ?_;rintro e w4 ⟨_, rfl, rfl, hb4⟩;have hb6 := hb3.trans (hb4.mono hb3.size);clear hb3 hb4;rw [<- HMB.out];rcases Nat.lt_or_ge 18 ((BS (decDigits a.natAbs)).size + (BS (decDigits b.natAbs)).size) with hbig | hsm
 ·go_wp2_with fail
  refine (takeI_any a.natAbs (by omega) _).mono ?_;rintro e w5 ⟨va, rfl, hra, hb4⟩;have hb7 := hb6.trans (hb4.mono hb6.size);clear hb6 hb4;obtain ⟨pa, ca, rfl, hca, hma2, hra'⟩ := hra.open;clear hra';go_wp2_with fail;refine (takeI_any b.natAbs (by omega) _).mono ?_;rintro e w6 ⟨vb, rfl, hrb, hb4⟩;have hb8 := hb7.trans (hb4.mono hb7.size);obtain ⟨pb, cb, rfl, hcb, hmb2, hrb'⟩ := hrb.open;have HRA := hid (RdC.below hra hb4);have HRB := hid hrb;clear hb7 hb4 hra hrb hrb';have hg6 := hg.below hb8;have hl9 : (lm B4 (a.natAbs * b.natAbs)).length <= 3000000 := by have := lm4_mul_len hla hlb; omega
  go_wp2_with fail;refine (times4_any _ _ _ a.natAbs b.natAbs HRA.out HRB.out (by omega) (by omega)).mono ?_;rintro e w7 ⟨v7, rfl, ⟨hv7, _⟩, hb9⟩;obtain ⟨p7, c7, rfl, hc7, hm7, hr7⟩ := hv7.open;clear hr7;go_wp2_with fail;refine (madeI_any _ (ma != mb) _ (a.natAbs * b.natAbs) hv7 hl9 (hg6.below hb9)).mono ?_;rintro e w8 ⟨_, rfl, rfl, hb10⟩;rw [HV.out];go_wp2_with fail;go_ret;exact ⟨_, rfl, rfl, hb8.trans ((hb9.trans (hb10.mono hb9.size)).mono hb8.size)⟩
 ·have k := mul_len18 hsm
  have pa : 0 < (BS (decDigits a.natAbs)).size := by rw [BS_size]; exact List.length_pos_iff.2 (decDigits_ne_nil _)
  have pb : 0 < (BS (decDigits b.natAbs)).size := by rw [BS_size]; exact List.length_pos_iff.2 (decDigits_ne_nil _)
  have HL1 : Hid ((decDigits a.natAbs).length <= 18) := by unfold Hid; rw [<- BS_size]; omega
  have HL2 : Hid ((decDigits b.natAbs).length <= 18) := by unfold Hid; rw [<- BS_size]; omega
  go_wp2_with fail;refine ((smallR_any a HL1.out _).mono fun _ _ h => h.ret).mono ?_;rintro e w5 ⟨_, rfl, rfl, hb4⟩;have hb7 := hb6.trans (hb4.mono hb6.size);go_wp2_with fail;refine ((smallR_any b HL2.out _).mono fun _ _ h => h.ret).mono ?_;rintro e w6 ⟨_, rfl, rfl, hb5⟩;have hb8 := hb7.trans (hb5.mono hb7.size);go_wp2_with fail;refine (ofR_any (a * b) (by omega) (by omega) _ (hg.below hb8)).mono ?_;rintro e w7 ⟨_, rfl, rfl, hb9⟩;go_wp2_with fail;go_ret;exact ⟨_, rfl, rfl, hb8.trans (hb9.mono hb8.size)⟩
theorem tup2s {a b c d : ByteArray} (h1 : a = c) (h2 : b = d) : Value.tuple #[.string a, .string b] = Value.tuple #[.string c, .string d] := by rw [h1, h2]
theorem tdiv_lim {x y : Int} {M : Int} (hx : -M < x /\ x < M) : -M < x.tdiv y /\ x.tdiv y < M := by
 have h : (x.tdiv y).natAbs <= x.natAbs := by
  rw [Int.natAbs_tdiv]; exact Nat.div_le_self _ _
 omega
theorem tmod_lim {x y : Int} (hy : y ≠ 0) : (x.tmod y).natAbs < y.natAbs := by rw [tmod_natAbs']; exact Nat.mod_lt _ (by omega)
 where tmod_natAbs' : (x.tmod y).natAbs = x.natAbs % y.natAbs := Int.natAbs_tmod ..
theorem tdm_pos {x y : Int} (hy : y ≠ 0) (h : 0 <= x.tmod y) : x.tdiv y = x / y /\ x.tmod y = x % y := by
 have h1 := tmod_lim (x := x) hy;have h2 := Int.mul_tdiv_add_tmod x y;rcases Int.lt_or_le 0 y with hp | hn
 ·have := (Int.ediv_emod_unique (a := x) (b := y) (r := x.tmod y) (q := x.tdiv y) hp).2 ⟨by omega, h, by omega⟩
  exact ⟨this.1.symm, this.2.symm⟩
 ·have hp : 0 < -y := by omega
  have := (Int.ediv_emod_unique (a := x) (b := -y) (r := x.tmod y) (q := -(x.tdiv y)) hp).2 ⟨by rw [Int.neg_mul_neg]; omega, h, by omega⟩;rw [Int.ediv_neg, Int.emod_neg] at this;exact ⟨by omega, this.2.symm⟩
theorem tdm_neg {x y : Int} (hy : y ≠ 0) (h : x.tmod y < 0) : (x - (x.tmod y + max y (-y))).tdiv y = x / y /\ x.tmod y + max y (-y) = x % y := by
 have h1 := tmod_lim (x := x) hy;have h2 := Int.mul_tdiv_add_tmod x y;rcases Int.lt_or_le 0 y with hp | hn
 ·have e : max y (-y) = y := by omega
  rw [e];have := (Int.ediv_emod_unique (a := x) (b := y) (r := x.tmod y + y) (q := x.tdiv y - 1) hp).2 ⟨by rw [Int.mul_sub]; omega, by omega, by omega⟩;refine ⟨?_, this.2.symm⟩;rw [show x - (x.tmod y + y) = y * (x.tdiv y - 1) by rw [Int.mul_sub]; omega, Int.mul_tdiv_cancel_left _ hy];exact this.1.symm
 ·have hp : 0 < -y := by omega
  have e : max y (-y) = -y := by omega
  rw [e];have := (Int.ediv_emod_unique (a := x) (b := -y) (r := x.tmod y + -y) (q := -(x.tdiv y) - 1) hp).2 ⟨by rw [Int.mul_sub, Int.neg_mul_neg]; omega, by omega, by omega⟩;rw [Int.ediv_neg, Int.emod_neg] at this;refine ⟨?_, this.2.symm⟩;rw [show x - (x.tmod y + -y) = y * (x.tdiv y + 1) by rw [Int.mul_add]; omega, Int.mul_tdiv_cancel_left _ hy];omega
theorem divmodR_any (a b : Int) (hsa : (IS a).size <= 100000) (hsb : (IS b).size <= 100000) (hb0 : b ≠ 0) (w : World) (hg : Good w) :
 Calls Tryz.prog 66 #[.string (IS a), .string (IS b)] w (Ret (fun v _ => v = .tuple #[.string (IS (a / b)), .string (IS (a % b))]) w) := by
 have hla := lm4_len hsa;have hlb := lm4_len hsb;have hda := dec_size hsa;have hdb := dec_size hsb;have HB0 := hid hb0;clear hb0;go_enter Tryz.func66, Tryz.ntmps66;go_wp2_with fail;refine ((briefR_any a hsa _).mono fun _ _ h => h.ret).mono ?_;rintro e w1 ⟨_, rfl, ⟨x, one, rfl, hx⟩, hb1⟩;go_wp2_with fail;refine ((briefR_any b hsb _).mono fun _ _ h => h.ret).mono ?_;rintro e w2 ⟨_, rfl, ⟨y, two, rfl, hy⟩, hb2⟩;have hb3 : Below w.heap.size w w2 := hb1.trans (hb2.mono hb1.size);clear hb1 hb2;rcases (by cases one <;> cases two <;> simp : (one = true /\ two = true) \/ (one = false) \/ (one = true /\ two = false)) with ⟨h1, h2⟩ | h1 | ⟨h1, h2⟩
 ·obtain ⟨rfl, k1⟩ := hx h1
  obtain ⟨rfl, k2⟩ := hy h2;subst h1;subst h2;have hy0 : ¬ y = 0 := HB0.out;have hyz : (y == 0) = false := by simpa using hy0
  have q1 := tdiv_lim (y := y) k1;have m1 := tmod_lim (x := x) HB0.out;have m2 : -100000000000000000 < x.tmod y /\ x.tmod y < 100000000000000000 := by omega
  rcases Int.lt_or_le (x.tmod y) 0 with hneg | hnn
  ·have HF := hid (tdm_neg HB0.out hneg)
   have r1 : 0 <= x.tmod y + max y (-y) /\ x.tmod y + max y (-y) < 100000000000000000 := by omega
   have q2 : -200000000000000000 < (x - (x.tmod y + max y (-y))).tdiv y /\ (x - (x.tmod y + max y (-y))).tdiv y < 200000000000000000 := tdiv_lim (by omega);have tn : decide (x.tmod y < 0) = true := decide_eq_true hneg;clear m1;go_wp2_with fail;go_quiet (fail);go_wp2_with fail;have hbN : Below w.heap.size w (w2.drewN nq) := hb3.trans ((below_drewN w2 nq).mono hb3.size);have q9 : -9223372036854775808 <= x / y /\ x / y <= 9223372036854775807 := by rw [<- HF.out.1]; omega
   have r9 : -9223372036854775808 <= x % y /\ x % y <= 9223372036854775807 := by rw [<- HF.out.2]; omega
   rw [HF.out.1];refine (ofR_any (x / y) q9.1 q9.2 _ (hg.below hbN)).mono ?_;rintro e w3 ⟨_, rfl, rfl, hb4⟩;have hbM := hbN.trans (hb4.mono hbN.size);go_wp2_with fail;rw [HF.out.2];refine (ofR_any (x % y) r9.1 r9.2 _ (hg.below hbM)).mono ?_;rintro e w4 ⟨_, rfl, rfl, hb5⟩;go_wp2_with fail;go_ret2;exact ⟨_, rfl, rfl, hbM.trans (hb5.mono hbM.size)⟩
  ·have HF := hid (tdm_pos HB0.out hnn)
   have tn : decide (x.tmod y < 0) = false := decide_eq_false (by omega);clear m1;go_wp2_with fail;go_quiet (fail);go_wp2_with fail;have hbN : Below w.heap.size w (w2.drewN nq) := hb3.trans ((below_drewN w2 nq).mono hb3.size);have q9 : -9223372036854775808 <= x / y /\ x / y <= 9223372036854775807 := by rw [<- HF.out.1]; omega
   have r9 : -9223372036854775808 <= x % y /\ x % y <= 9223372036854775807 := by rw [<- HF.out.2]; omega
   rw [HF.out.1];refine (ofR_any (x / y) q9.1 q9.2 _ (hg.below hbN)).mono ?_;rintro e w3 ⟨_, rfl, rfl, hb4⟩;have hbM := hbN.trans (hb4.mono hbN.size);go_wp2_with fail;rw [HF.out.2];refine (ofR_any (x % y) r9.1 r9.2 _ (hg.below hbM)).mono ?_;rintro e w4 ⟨_, rfl, rfl, hb5⟩;go_wp2_with fail;go_ret2;exact ⟨_, rfl, rfl, hbM.trans (hb5.mono hbM.size)⟩
 case' inr.inl =>
  subst h1
 case' inr.inr =>
  subst h1;subst h2
 all_goals
  clear hx hy;obtain ⟨ma, hma⟩ : ∃ ma, ma = decide (a < 0) := ⟨_, rfl⟩;obtain ⟨mb, hmb⟩ : ∃ mb, mb = decide (b < 0) := ⟨_, rfl⟩;have HMA := hid hma;have HMB := hid hmb;have HBN : Hid (0 < b.natAbs) := by have := HB0.out; unfold Hid; omega
  have HEQ : Hid (∀ d m : Nat, (d = if ma = true /\ 0 < a.natAbs % b.natAbs then a.natAbs / b.natAbs + 1 else a.natAbs / b.natAbs) -> (m = if ma = true /\ 0 < a.natAbs % b.natAbs then b.natAbs - a.natAbs % b.natAbs else a.natAbs % b.natAbs) ->
   (if (ma != mb) then -(d : Int) else (d : Int)) = a / b /\ (m : Int) = a % b) := fun d m h3 h4 => divmod_eq HB0.out hma hmb h3 h4
  have hltm : a.natAbs % b.natAbs < b.natAbs := Nat.mod_lt _ HBN.out;clear hma hmb;go_wp2_with fail;refine ((splitI_any a hsa _).mono fun _ _ h => h.ret).mono ?_;rintro e w3 ⟨_, rfl, rfl, hb4⟩;have hb5 := hb3.trans (hb4.mono hb3.size);clear hb3 hb4;rw [<- HMA.out];go_wp2_with fail;refine ((splitI_any b hsb _).mono fun _ _ h => h.ret).mono ?_;rintro e w4 ⟨_, rfl, rfl, hb4⟩;have hb6 := hb5.trans (hb4.mono hb5.size);clear hb5 hb4;rw [<- HMB.out];go_wp2_with fail;refine (takeI_any a.natAbs (by omega) _).mono ?_;rintro e w5 ⟨va, rfl, hra, hb4⟩;have hb7 := hb6.trans (hb4.mono hb6.size);clear hb6 hb4;obtain ⟨pa, ca, rfl, hca, hma2, hra'⟩ := hra.open;clear hra';go_wp2_with fail;refine (takeI_any b.natAbs (by omega) _).mono ?_;rintro e w6 ⟨vb, rfl, hrb, hb4⟩;have hb8 := hb7.trans (hb4.mono hb7.size);obtain ⟨pb, cb, rfl, hcb, hmb2, hrb'⟩ := hrb.open;have HRA := hid (RdC.below hra hb4);have HRB := hid hrb;clear hb7 hb4 hra hrb hrb';go_wp2_with fail;refine (parts_any _ _ _ a.natAbs b.natAbs HRA.out HRB.out HBN.out (by omega) (by omega)).mono ?_;rintro e w7 ⟨_, rfl, ⟨vq, vr, rfl, hq, hr⟩, hb9⟩;have hbW := hb8.trans (hb9.mono hb8.size);generalize hrr : a.natAbs % b.natAbs = r at *;generalize hqq : a.natAbs / b.natAbs = q at *;have hlq : (lm B4 q).length <= 100000 := by
   rw [<- hqq]; exact lm4_mono_len (Nat.div_le_self _ _) hla
  have hlr : (lm B4 r).length <= 100000 := lm4_mono_len (Nat.le_of_lt hltm) hlb;have HRR := hid hrr;have HQQ := hid hqq;obtain ⟨pq, cq, rfl, hcq, hmq, hq'⟩ := hq.open;obtain ⟨pr, cr, rfl, hcr, hmr, hr'⟩ := hr.open;have HQ := hid hq;have HR := hid hr;clear hq hr hq' hr' hb8 hb9 hrr hqq HRA HRB;have hgW := hg.below hbW;obtain ⟨mm, hmm⟩ : ∃ mm, mm = (ma != mb) := ⟨_, rfl⟩;by_cases hneg : ma = true /\ 0 < r
  ·obtain ⟨rfl, hr0⟩ := hneg
   have hl0 : 0 < (lm B4 r).length := List.length_pos_iff.2 (lm_ne_nil B4 r two_le_B4 hr0);have HF : Hid (sgn mm (q + 1) = a / b /\ ((b.natAbs - r : Nat) : Int) = a % b) := by
    rw [hmm]; exact HEQ.out (q + 1) (b.natAbs - r) (by simp [hr0]) (by simp [hr0])
   have HM : Hid (mm = !mb) := by unfold Hid; rw [hmm]; cases mb <;> rfl
   have hone : Rd .i64 (w7.alloc (.cells #[.int .i64 1] 3)) (.slice (some ⟨w7.heap.size, 0, none⟩) 1 1) (lm B4 1) := by
    have e : lm B4 1 = [1] := by
     rw [lm_pos B4 1 two_le_B4 (by decide), show 1 / B4 = 0 from rfl, lm_zero]; rfl
    rw [e];refine ⟨_, _, rfl, Nat.le_refl _, by unfold maxLen; omega, rfl, fun _ => ⟨w7.heap.size, 0, rfl, fun i x hx => ?_⟩⟩;cases i with
    | zero => simp at hx; rw [World.cell?_alloc_at _ _ _ _ rfl, <- hx]; rfl
    | succ i => simp at hx
   have HONE := hid hone;have l1 : (lm B4 1).length <= 1000000 := by
    have := lm_len_le B4 1 1 two_le_B4 (by decide); omega
   have hlq1 : (lm B4 (q + 1)).length <= 3000000 := by
    have := lm4_add_len hlq (show (lm B4 1).length <= 100000 by have := lm_len_le B4 1 1 two_le_B4 (by decide); omega); omega
   have hlr1 : (lm B4 (b.natAbs - r)).length <= 3000000 := by have := lm4_mono_len (Nat.sub_le b.natAbs r) hlb; omega
   have hba : Below w7.heap.size w7 (w7.alloc (.cells #[.int .i64 1] 3)) := zal _ _;have HBA := hid hba;have HLE := hid (Nat.le_of_lt hltm);clear hmm hone hba;go_wp2_with fail;refine (joined4_any _ _ _ q 1 (q + 1) 1 (RdC.below HQ.out HBA.out) HONE.out (by omega) (by omega) (by omega) l1).mono ?_;rintro e w8 ⟨v8, rfl, ⟨hv8, _⟩, hb10⟩;obtain ⟨p8, c8, rfl, hc8, hm8, hr8⟩ := hv8.open;have hb11 := HBA.out.trans (hb10.mono HBA.out.size);clear hr8 hb10;go_wp2_with fail;refine (takeI_any b.natAbs (by omega) _).mono ?_;rintro e w9 ⟨vb9, rfl, hrb9, hb12⟩;obtain ⟨p9, c9, rfl, hc9, hm9, hr9⟩ := hrb9.open;have hb13 := hb11.trans (hb12.mono hb11.size);have hv9 := RdC.below hv8 hb12;clear hr9 hb12 hb11 hv8;go_wp2_with fail;refine (joined4_any _ _ _ b.natAbs r (b.natAbs - r) (-1) hrb9 (RdC.below HR.out hb13) (by omega) (by have := HLE.out; omega) (by omega) (by omega)).mono ?_;rintro e w10 ⟨v10, rfl, ⟨hv10, _⟩, hb14⟩;obtain ⟨p10, c10, rfl, hc10, hm10, hr10⟩ := hv10.open;have hb15 := hb13.trans (hb14.mono hb13.size);have hv11 := RdC.below hv9 hb14;clear hr10 hb14 hb13 hv9;go_wp2_with fail;rw [<- HM.out];refine (madeI_any _ mm _ (q + 1) hv11 hlq1 (hgW.below hb15)).mono ?_;rintro e w11 ⟨_, rfl, rfl, hb16⟩;rw [HF.out.1];have hb17 := hb15.trans (hb16.mono hb15.size);go_wp2_with fail;refine (madeI_any _ false _ (b.natAbs - r) (RdC.below hv10 hb16) hlr1 (hgW.below hb17)).mono ?_;rintro e w12 ⟨_, rfl, rfl, hb18⟩;rw [show sgn false (b.natAbs - r) = a % b from HF.out.2];go_wp2_with fail;go_ret2;exact ⟨_, rfl, rfl, hbW.trans ((hb17.trans (hb18.mono hb17.size)).mono hbW.size)⟩
  ·have hz : ma = true -> (lm B4 r).length = 0 := fun h => by
    have : r = 0 := by
     rcases Nat.eq_zero_or_pos r with h0 | h0
     ·exact h0
     ·exact absurd ⟨h, h0⟩ hneg
    rw [this, lm_zero]; rfl
   have HF : Hid (sgn mm q = a / b /\ (r : Int) = a % b) := by
    rw [hmm]; exact HEQ.out q r (by rw [if_neg hneg]) (by rw [if_neg hneg])
   have hl6 : (lm B4 r).length <= 3000000 := by omega
   have hl7 : (lm B4 q).length <= 3000000 := by omega
   have HZ := hid hz;clear hz hneg;cases ma
   case' true =>
    have hl0 : ¬ 0 < (lm B4 r).length := by have := HZ.out rfl; omega
    have HM : Hid (mm = !mb) := by unfold Hid; rw [hmm]; cases mb <;> rfl
   case' false =>
    have HM : Hid (mm = mb) := by unfold Hid; rw [hmm]; cases mb <;> rfl
   all_goals
    clear hmm;go_wp2_with fail;rw [<- HM.out];refine (madeI_any _ mm _ q HQ.out hl7 hgW).mono ?_;rintro e w9 ⟨_, rfl, rfl, hb9⟩;rw [HF.out.1];go_wp2_with fail;refine (madeI_any _ false _ r (RdC.below HR.out hb9) hl6 (hgW.below hb9)).mono ?_;rintro e w10 ⟨_, rfl, rfl, hb10⟩;rw [show sgn false r = a % b from HF.out.2];go_wp2_with fail;go_ret2;exact ⟨_, rfl, rfl, hbW.trans ((hb9.trans (hb10.mono hb9.size)).mono hbW.size)⟩
theorem nat_size_mono {a b k : Nat} (h : a <= b) (hb : (IS (b : Int)).size <= k) (hk : 0 < k) : (IS (a : Int)).size <= k := by
 rw [IS_size, itoa_nat] at *;rw [len_decDigits_le _ _ hk] at *;omega
theorem abs_size {n : Int} {k : Nat} (h : (IS n).size <= k) : (IS (n.natAbs : Int)).size <= k := by
 have h1 := itoa_len n;rw [IS_size] at h;rw [IS_size, itoa_nat, decDigits_length];split at h1 <;> omega
theorem gcdR_any (a b : Int) (hsa : (IS a).size <= 100000) (hsb : (IS b).size <= 100000) (w : World) (hg : Good w) :
 Calls Tryz.prog 47 #[.string (IS a), .string (IS b)] w (Ret (fun v _ => v = .string (IS (Int.gcd a b : Nat))) w) := by
 have HSA := hid (abs_size hsa);have HSB := hid (abs_size hsb);go_enter Tryz.func47, Tryz.ntmps47;go_wp2_with fail;refine ((absR_any a hsa _).mono fun _ _ h => h.ret).mono ?_;rintro e w1 ⟨_, rfl, rfl, hb1⟩;go_wp2_with fail;refine ((absR_any b hsb _).mono fun _ _ h => h.ret).mono ?_;rintro e w2 ⟨_, rfl, rfl, hb2⟩;have hb3 := hb1.trans (hb2.mono hb1.size);clear hb1 hb2;go_wp2_with fail
 go_loopg [0, 1] b.natAbs (fun n t0 t1 wr => ∃ m : Nat, t0 = .string (IS (m : Int)) /\ t1 = .string (IS (n : Int)) /\ Hid (Nat.gcd m n = Int.gcd a b) /\ (IS (m : Int)).size <= 100000 /\ (IS (n : Int)).size <= 100000 /\ Below w.heap.size w wr)
 case atStart => exact ⟨a.natAbs, rfl, rfl, rfl, HSA.out, HSB.out, hb3⟩
 case round =>
  clear hb3;obtain ⟨m, rfl, rfl, HG, hlm, hln, hnx⟩ := hrel;have hz := IS_eq48 (gk : Int);rcases Nat.eq_zero_or_pos gk with h0 | hpos
  ·subst h0
   rw [show decide (((0 : Nat) : Int) = 0) = true from rfl] at hz;have hz' : ((IS ((0 : Nat) : Int)).toList == [48]) = true := hz;have hz2 : ((IS 0).toList == [48]) = true := hz;have HR : Hid ((m : Int) = ((Int.gcd a b : Nat) : Int)) := by
    unfold Hid; rw [<- HG.out, Nat.gcd_zero_right]
   clear hz;go_wp2_with fail;go_ret;exact ⟨_, rfl, congrArg (fun z : Int => Value.string (IS z)) HR.out, hnx⟩
  ·rw [show decide ((gk : Int) = 0) = false from decide_eq_false (by omega)] at hz
   have hz' : ((IS (gk : Int)).toList == [48]) = false := hz;have hlt : m % gk < gk := Nat.mod_lt _ hpos;have HN : Hid (Nat.gcd gk (m % gk) = Int.gcd a b) := by unfold Hid; rw [gcd_step]; exact HG.out
   have hlr : (IS ((m % gk : Nat) : Int)).size <= 100000 := nat_size_mono (Nat.le_of_lt hlt) hln (by omega);have HM : Hid ((m : Int) % (gk : Int) = ((m % gk : Nat) : Int)) := by unfold Hid; omega
   have HK : Hid ((gk : Int) ≠ 0) := by unfold Hid; omega
   have hgr := hg.below hnx;clear hz;go_wp2_with fail;refine (divmodR_any (m : Int) (gk : Int) hlm hln HK.out _ hgr).mono ?_;rintro e w6 ⟨_, rfl, rfl, hb6⟩;rw [HM.out];have hbel := hnx.trans (hb6.mono hnx.size);go_wp2_with fail
   go_roundg (m % gk)
   case measure => exact hlt
   case rel => exact ⟨gk, rfl, rfl, HN, hln, hlr, hbel⟩
end Go.Proofs.YtbfcmipplhkkeaaGreatDoor
