import Derived.Test.YtbfcmipplhkkeaaGreatDoorRC1
import Derived.Lib.IndexBytes
/- Klipperef02 and rational: parts, small, lowest, Fraction. -/
set_option maxHeartbeats 1000000
set_option maxRecDepth 100000
namespace Go.Proofs.YtbfcmipplhkkeaaGreatDoor
open Go.RowKit Go.Lib
def fst47 (l : List UInt8) : List UInt8 := if 0 <= indexByte l 47 then l.take (indexByte l 47).toNat else l
def snd47 (l : List UInt8) : List UInt8 := if 0 <= indexByte l 47 then l.drop ((indexByte l 47).toNat + 1) else [49]
theorem fst47_RL (q : Rat) : fst47 (RL q) = itoa q.num := by
 unfold fst47;by_cases h : q.den = 1
 ·rw [RL_idx_one h, if_neg (by omega), RL_one_den h]
 ·rw [RL_idx_den h, if_pos (by omega), RL_den h]; simp
theorem snd47_RL (q : Rat) : snd47 (RL q) = decDigits q.den := by
 unfold snd47;by_cases h : q.den = 1
 ·rw [RL_idx_one h, if_neg (by omega), h, decDigits_one (i := 1) (by omega)]; rfl
 ·rw [RL_idx_den h, if_pos (by omega), RL_den h]
  rw [show ((itoa q.num).length : Int).toNat + 1 = (itoa q.num).length + 1 by omega];simp
theorem den_IS (q : Rat) : BS (decDigits q.den) = IS (q.den : Int) := by unfold IS; rw [itoa_nat]; rfl
theorem idx_lt {l : List UInt8} (h : 0 <= indexByte l 47) : (indexByte l 47).toNat < l.length := by
 obtain ⟨k, hk⟩ : ∃ k : Nat, indexByte l 47 = k := ⟨(indexByte l 47).toNat, by omega⟩;have := (indexByte_some hk).1;have h2 := (List.getElem?_eq_some_iff.1 this).1;rw [hk]; simpa using h2
theorem partsR_any (s : ByteArray) (hs : s.size <= 1000000000000) (w : World) :
 Calls Tryz.prog 43 #[.string s] w (Drawn (fun v => v = .tuple #[.string (BS (fst47 s.data.toList)), .string (BS (snd47 s.data.toList))]) w) := by
 obtain ⟨iz, hiz⟩ : ∃ iz, iz = indexByte s.data.toList 47 := ⟨_, rfl⟩;have hge := indexByte_ge s.data.toList 47;rw [<- hiz] at hge;have HIZ := hid hiz;have hsl : s.data.toList.length = s.size := by rw [Array.length_toList]; rfl
 rcases Int.lt_or_le iz 0 with h | h
 ·have H1 : Hid (s = BS (fst47 s.data.toList) /\ (⟨#[49]⟩ : ByteArray) = BS (snd47 s.data.toList)) := by
   unfold Hid fst47 snd47;rw [<- hiz, if_neg (by omega), if_neg (by omega)];exact ⟨ba_ext (by rw [BS_list]), rfl⟩
  clear hiz hsl;go_enter Tryz.func43, Tryz.ntmps43;go_wp2_with fail;refine (indexSlash_any s _).mono ?_;rintro e w1 ⟨_, rfl, rfl, rfl⟩;rw [<- HIZ.out];go_wp2_with fail;go_ret2;exact ⟨_, rfl, tup2s H1.out.1 H1.out.2, dr_zero _⟩
 ·obtain ⟨i, rfl⟩ : ∃ i : Nat, iz = (i : Int) := ⟨iz.toNat, by omega⟩
  have hlt : i < s.size := by
   have := idx_lt (l := s.data.toList) (by rw [<- hiz]; exact h);rw [<- hiz, hsl] at this; simpa using this
  have H1 : Hid (s.extract 0 i = BS (fst47 s.data.toList) /\ s.extract (i + 1) s.size = BS (snd47 s.data.toList)) := by
   unfold Hid fst47 snd47;rw [<- hiz, if_pos (by omega), if_pos (by omega), ba_take, ba_drop];exact ⟨rfl, rfl⟩
  have f1 : (0 : Int) <= (i : Int) := by omega
  have f2 : (i : Int) <= (s.size : Int) := by omega
  have f3 : (i : Int) + 1 <= (s.size : Int) := by omega
  have f4 : (0 : Int) <= (i : Int) + 1 := by omega
  clear hiz hsl;go_enter Tryz.func43, Tryz.ntmps43;go_wp2_with fail;refine (indexSlash_any s _).mono ?_;rintro e w1 ⟨_, rfl, rfl, rfl⟩;rw [<- HIZ.out];go_wp2_with fail;go_region;go_wp2_with fail;go_ret2;exact ⟨_, rfl, tup2s H1.out.1 H1.out.2, dr_step ⟨0, rfl⟩ 1⟩
theorem partsRQ_any (q : Rat) (hs : (RS q).size <= 1000000000000) (w : World) :
 Calls Tryz.prog 43 #[.string (RS q)] w (Drawn (fun v => v = .tuple #[.string (IS q.num), .string (IS (q.den : Int))]) w) := by
 have h := partsR_any (RS q) hs w;rw [RS_list, fst47_RL, snd47_RL, den_IS] at h;exact h
theorem parts_rat (q : Rat) (hs : (RS q).size < 1000000000) (w : World) (hg : Good w) :
 Calls Tryz.prog 122 #[.string (RS q)] w (Drawn (fun v => v = .tuple #[.string (IS q.num), .string (IS (q.den : Int))]) w) := by
 have hc : Hid (cut (RS q).data.toList [47] = if q.den = 1 then (RL q, [], false) else (itoa q.num, decDigits q.den, true)) := by
  unfold Hid cut;rw [RS_list, index_one];by_cases h : q.den = 1
  ·rw [RL_idx_one h, if_neg (by omega), if_pos h]
  ·have e := fst47_RL q
   have e2 := snd47_RL q;unfold fst47 at e;unfold snd47 at e2;rw [RL_idx_den h] at e e2 ⊢;rw [if_pos (by omega)] at e e2 ⊢;rw [if_neg h, e];rw [<- e2]; rfl
 by_cases hd : q.den = 1
 ·have H1 : Hid (BS (RL q) = IS q.num /\ (⟨#[49]⟩ : ByteArray) = IS (q.den : Int)) := by
   unfold Hid;rw [RL_one_den hd, hd];exact ⟨rfl, by rw [show ((1 : Nat) : Int) = 1 from rfl, IS_one]⟩
  have hc2 : Hid (cut (RS q).data.toList [47] = (RL q, [], false)) := by unfold Hid; rw [hc.out, if_pos hd]
  clear hd;go_enter Tryz.func122, Tryz.ntmps122;go_wp2_with fail;refine (cut_any (RS q) hs _ hg).mono ?_;rintro e w1 ⟨_, rfl, rfl, j, rfl⟩;rw [hc2.out];go_wp2_with fail;go_ret2;exact ⟨_, rfl, tup2s H1.out.1 H1.out.2, j, rfl⟩
 ·have H1 : Hid (BS (itoa q.num) = IS q.num /\ BS (decDigits q.den) = IS (q.den : Int)) := ⟨rfl, den_IS q⟩
  have hc2 : Hid (cut (RS q).data.toList [47] = (itoa q.num, decDigits q.den, true)) := by unfold Hid; rw [hc.out, if_neg hd]
  clear hd;go_enter Tryz.func122, Tryz.ntmps122;go_wp2_with fail;refine (cut_any (RS q) hs _ hg).mono ?_;rintro e w1 ⟨_, rfl, rfl, j, rfl⟩;rw [hc2.out];go_wp2_with fail;go_ret2;exact ⟨_, rfl, tup2s H1.out.1 H1.out.2, j, rfl⟩
structure Lies (q : Rat) (s : ByteArray) (b0 n1 : Nat) : Prop where
 b1 : b0 <= 1
 neg : b0 = 1 ↔ q.num < 0
 lt : b0 < n1
 le : n1 <= s.size
 sign : (h : 0 < s.size) -> (s[0].toNat = 45 ↔ b0 = 1)
 dig : ∀ (i : Nat) (h : i < s.size), b0 <= i -> i < n1 -> isDig s[i]
 slash : (h : n1 < s.size) -> s[n1] = 47
 dig2 : ∀ (i : Nat) (h : i < s.size), n1 < i -> isDig s[i]
 num : dsl s b0 n1 = q.num.natAbs
 den1 : n1 = s.size -> q.den = 1
 den : n1 < s.size -> n1 + 1 < s.size /\ dsl s (n1 + 1) s.size = q.den
theorem lies_of (q : Rat) : ∃ b0 n1, Lies q (RS q) b0 n1 := by
 obtain ⟨P, hP⟩ : ∃ P : List UInt8, P = if q.num < 0 then [45] else [] := ⟨_, rfl⟩
 obtain ⟨D, hD⟩ : ∃ D, D = decDigits q.num.natAbs := ⟨_, rfl⟩;obtain ⟨T, hT⟩ : ∃ T : List UInt8, T = if q.den = 1 then [] else 47 :: decDigits q.den := ⟨_, rfl⟩
 have hl : (RS q).data.toList = P ++ (D ++ T) := by
  rw [RS_list, RL, itoa_natAbs, hP, hT, hD];split <;> split <;> simp
 have hDd : ∀ c ∈ D, isDig c := by rw [hD]; exact decDigits_dig _
 have hDn : 0 < D.length := by rw [hD]; exact List.length_pos_iff.2 (decDigits_ne_nil _)
 have hsz : (RS q).size = P.length + (D.length + T.length) := by
  have : (RS q).data.toList.length = (RS q).size := by rw [Array.length_toList]; rfl
  rw [<- this, hl]; simp
 have hg : ∀ (i : Nat) (h : i < (RS q).size), (RS q)[i] = (P ++ (D ++ T))[i]'(by rw [<- hl, Array.length_toList]; exact h) := by
  intro i h;have h2 : i < (RS q).data.toList.length := by rw [Array.length_toList]; exact h
  have e : (RS q)[i] = (RS q).data.toList[i]'h2 := by rfl
  rw [e];simp only [hl]
 have hPl : P.length <= 1 /\ (P.length = 1 ↔ q.num < 0) := by
  rw [hP]; split <;> simp_all
 refine ⟨P.length, P.length + D.length, ⟨hPl.1, hPl.2, by omega, by omega, ?_, ?_, ?_, ?_, ?_, ?_, ?_⟩⟩
 ·intro h
  rw [hg 0 h];by_cases hn : q.num < 0
  ·have hp1 : P = [45] := by rw [hP, if_pos hn]
   subst hp1;simp
  ·have hp1 : P = [] := by rw [hP, if_neg hn]
   subst hp1;simp only [List.nil_append, List.length_nil];rw [List.getElem_append_left hDn];have := hDd _ (List.getElem_mem hDn);unfold isDig at this;constructor
   ·intro h; omega
   ·intro h; omega
 ·intro i h h1 h2
  rw [hg i h, List.getElem_append_right h1, List.getElem_append_left (by omega)];exact hDd _ (List.getElem_mem _)
 ·intro h
  rw [hg _ h, List.getElem_append_right (by omega), List.getElem_append_right (by omega)];have hTn : 0 < T.length := by omega
  have hd : q.den ≠ 1 := by
   intro e; rw [hT, if_pos e] at hTn; simp at hTn
  have e : P.length + D.length - P.length - D.length = 0 := by omega
  simp only [e];simp only [hT, if_neg hd, List.getElem_cons_zero]
 ·intro i h h1
  rw [hg i h, List.getElem_append_right (by omega), List.getElem_append_right (by omega)];have hd : q.den ≠ 1 := by
   intro e;have : T.length = 0 := by rw [hT, if_pos e]; rfl
   omega
  obtain ⟨k, hk⟩ : ∃ k, i - P.length - D.length = k + 1 := ⟨i - P.length - D.length - 1, by omega⟩;simp only [hk];have hTT : T = 47 :: decDigits q.den := by rw [hT, if_neg hd]
  have hkl : k < (decDigits q.den).length := by
   have : T.length = (decDigits q.den).length + 1 := by rw [hTT]; simp
   omega
  have : T[k + 1]'(by rw [hTT]; simp; exact hkl) = (decDigits q.den)[k] := by simp only [hTT, List.getElem_cons_succ]
  rw [this];exact decDigits_dig _ _ (List.getElem_mem _)
 ·unfold dsl
  rw [hl, <- List.append_assoc, List.take_append_of_le_length (by simp), List.take_of_length_le (by simp), List.drop_append_of_le_length (by omega), List.drop_eq_nil_of_le (by omega), List.nil_append, hD, dval_decDigits]
 ·intro h
  have hT0 : T.length = 0 := by omega
  refine Classical.byContradiction fun hd => ?_
  rw [hT, if_neg hd] at hT0;simp at hT0
 ·intro h
  have hTn : 0 < T.length := by omega
  have hd : q.den ≠ 1 := by
   intro e; rw [hT, if_pos e] at hTn; simp at hTn
  have hTT : T = 47 :: decDigits q.den := by rw [hT, if_neg hd]
  have hTl : T.length = (decDigits q.den).length + 1 := by rw [hTT]; simp
  have hdn : 0 < (decDigits q.den).length := List.length_pos_iff.2 (decDigits_ne_nil _);refine ⟨by omega, ?_⟩;unfold dsl;rw [List.take_of_length_le (by rw [Array.length_toList]; exact Nat.le_refl _), hl, hTT, <- List.append_assoc,
   show P.length + D.length + 1 = (P ++ D).length + 1 by simp, List.drop_append]
  have e9 : List.drop (P.length + D.length + 1) (P ++ D) = [] := List.drop_eq_nil_of_le (by simp);simp [e9, dval_decDigits]
theorem dsl_lt9 (s : ByteArray) (a b : Nat) (hd : ∀ (i : Nat) (h : i < s.size), a <= i -> i < b -> isDig s[i]) (hb : b <= a + 9) : dsl s a b < 1000000000 := by
 unfold dsl;refine Nat.lt_of_lt_of_le (dval_lt _ fun c hc => ?_) ?_
 ·obtain ⟨i, hi, rfl⟩ := List.getElem_of_mem hc
  rw [List.length_drop, List.length_take, Array.length_toList] at hi;rw [List.getElem_drop, List.getElem_take];have h2 : a + i < s.size := by have : s.data.size = s.size := rfl; omega
  exact hd (a + i) h2 (by omega) (by omega)
 ·show 10 ^ _ <= 10 ^ 9
  refine Nat.pow_le_pow_right (by decide) ?_;rw [List.length_drop, List.length_take]; omega
def QuickIs (q : Rat) (v : Value) : Prop := ∃ (x y : Int) (one : Bool), v = .tuple #[.int .i64 x, .int .i64 y, .bool one] /\
 (one = true -> x = q.num /\ y = (q.den : Int) /\ (-1000000000 < x /\ x < 1000000000) /\ (0 < y /\ y < 1000000000))
theorem quick_end {q : Rat} {x y : Int} {v : Value} (h : v = .tuple #[.int .i64 x, .int .i64 y, .bool true]) (hx : x = q.num) (hy : y = (q.den : Int)) (h1 : -1000000000 < x /\ x < 1000000000) (h2 : y < 1000000000) : QuickIs q v :=
 ⟨x, y, true, h, fun _ => ⟨hx, hy, h1, by have := q.den_pos; omega, h2⟩⟩
theorem quick_out {q : Rat} {v : Value} (h : v = .tuple #[.int .i64 0, .int .i64 0, .bool false]) : QuickIs q v :=
 ⟨0, 0, false, h, fun h => by cases h⟩
theorem quickQ_any (q : Rat) (hs : (RS q).size <= 1000000000) (w : World) :
 Calls Tryz.prog 130 #[.string (RS q)] w (Same (QuickIs q) w) := by
 obtain ⟨b0, n1, L⟩ := lies_of q;generalize RS q = s at *;have hs0 : 0 < s.size := Nat.lt_of_lt_of_le (Nat.lt_of_le_of_lt (Nat.zero_le _) L.lt) L.le;have hb1 := L.b1;have hlt := L.lt;have hle := L.le;obtain ⟨c0, hc0⟩ : ∃ c0 : Nat, s[0].toNat = c0 := ⟨_, rfl⟩;have hc45 : c0 = 45 ↔ b0 = 1 := by rw [<- hc0]; exact L.sign hs0
 have HL := hid L;obtain ⟨neg, hneg⟩ : ∃ neg, neg = decide (q.num < 0) := ⟨_, rfl⟩;have HNEG := hid hneg;have hnb : neg = decide (b0 = 1) := by rw [hneg]; simp only [L.neg]
 clear L hneg;rcases (by omega : b0 = 0 \/ b0 = 1) with rfl | rfl
 ·have t0 : ((c0 : Int) == 45) = false := by rw [beq_eq_false_iff_ne]; omega
  have hn : neg = false := hnb;subst hn;clear hc45 hnb;go_enter Tryz.func130, Tryz.ntmps130;go_wp2_with fail;go_loop [2, 3, 5] (fun t2 t3 t5 => ∃ (i : Nat) (nz : Int), t3 = .int .i64 0 /\ 0 <= i /\ i <= n1 /\ i <= 0 + 9 /\ t5 = .int .i64 i /\ t2 = .int .i64 nz /\ Hid (nz = (dsl s 0 i : Nat)) /\ 0 <= nz /\ nz < 1000000000) (fun _ _ t5 => s.size - (RowKit.intOf t5).toNat)
  case atStart => exact ⟨0, 0, rfl, Nat.le_refl _, by omega, by omega, rfl, rfl, by unfold Hid; rw [dsl_self]; rfl, by omega, by omega⟩
  case round =>
   obtain ⟨i, nz, rfl, hi0, hi1, hi2, rfl, rfl, HN, hn0, hn1⟩ := hrel;rcases Nat.lt_or_ge i n1 with hin | hin
   ·have his : i < s.size := by omega
    have hd : isDig s[i] := HL.out.dig i his hi0 hin;unfold isDig at hd;have hst : Hid (dsl s 0 (i + 1) = 10 * dsl s 0 i + (s[i].toNat - 48)) := dsl_step s 0 i his hi0;obtain ⟨ck, hck⟩ : ∃ ck : Nat, s[i].toNat = ck := ⟨_, rfl⟩;rw [hck] at hd;have HCK := hid hck;have t1 : ((ck : Int) != 47) = true := by rw [bne_iff_ne]; omega
    have t1' : ((ck : Int) == 47) = false := by rw [beq_eq_false_iff_ne]; omega
    by_cases h9 : i = 0 + 9
    ·have t2 : ((i : Int) == 9) = true := by rw [beq_iff_eq]; omega
     clear hst h9;go_wp2_with fail
     go_ret3
     exact ⟨_, rfl, quick_out rfl, rfl⟩
    ·have t2 : ((i : Int) == 9) = false := by rw [beq_eq_false_iff_ne]; omega
     have h9' : i < 0 + 9 := by omega
     have HX : Hid (10 * nz + ((ck : Int) - 48) = ((dsl s 0 (i + 1) : Nat) : Int)) := by
      unfold Hid; rw [hst.out, HN.out, HCK.out]; omega
     have hx : Hid (0 <= 10 * nz + ((ck : Int) - 48) /\ 10 * nz + ((ck : Int) - 48) < 1000000000) := by
      have := dsl_lt9 s 0 (i + 1) (fun k hk h1 h2 => HL.out.dig k hk h1 (by omega)) (by omega);unfold Hid; rw [HX.out]; omega
     clear hst h9;go_wp2_with fail
     go_round
     case rel => exact ⟨i + 1, _, rfl, by omega, by omega, by omega, by go_num, rfl, HX, hx.out.1, hx.out.2⟩
     case measure => simp [RowKit.intOf]; omega
   ·have hie : i = n1 := by omega
    have HNV : Hid (nz = (q.num.natAbs : Nat)) := by rw [hie] at HN; have := HL.out.num; unfold Hid; rw [HN.out, this]
    subst hie;have hv : Hid (nz = q.num) := by
     unfold Hid;have := of_decide_eq_false HNEG.out.symm;rw [HNV.out]; omega
    have hvb : -1000000000 < nz /\ nz < 1000000000 := by omega
    clear HN;rcases Nat.lt_or_ge i s.size with hls | hge
    ·have hsl := HL.out.slash hls
     have hden := HL.out.den hls;obtain ⟨ck, hck⟩ : ∃ ck : Nat, s[i].toNat = ck := ⟨_, rfl⟩;have hk47 : ck = 47 := by rw [<- hck, hsl]; rfl
     have t1 : ((ck : Int) != 47) = false := by rw [bne_eq_false_iff_eq]; omega
     have t1' : ((ck : Int) == 47) = true := by rw [beq_iff_eq]; omega
     have t3 : ((i : Int) == (s.size : Int)) = false := by rw [beq_eq_false_iff_ne]; omega
     have hi2 : i + 1 < s.size := hden.1;have HDEN := hid hden.2;clear hk47 hsl hden;go_wp2_with fail;go_loop [2, 3, 5] (fun t2 t3 t5 => ∃ (k : Nat) (dz : Int), t2 = .int .i64 (nz) /\ i + 1 <= k /\ k <= s.size /\ k <= i + 1 + 9 /\ t5 = .int .i64 k /\ t3 = .int .i64 dz /\ Hid (dz = (dsl s (i + 1) k : Nat)) /\ 0 <= dz /\ dz < 1000000000) (fun _ _ t5 => s.size - (RowKit.intOf t5).toNat)
     case atStart => exact ⟨i + 1, 0, rfl, Nat.le_refl _, by omega, by omega, by go_num, rfl, by unfold Hid; rw [dsl_self]; rfl, by omega, by omega⟩
     case round =>
      obtain ⟨k, dz, rfl, hk0, hk1, hk2, rfl, rfl, HN, hn0, hn1⟩ := hrel;rcases Nat.lt_or_ge k s.size with hks | hks
      ·have hd : isDig s[k] := HL.out.dig2 k hks (by omega)
       unfold isDig at hd;have hst : Hid (dsl s (i + 1) (k + 1) = 10 * dsl s (i + 1) k + (s[k].toNat - 48)) := dsl_step s (i + 1) k hks hk0;obtain ⟨cd, hcd⟩ : ∃ cd : Nat, s[k].toNat = cd := ⟨_, rfl⟩;rw [hcd] at hd;have HCK := hid hcd;by_cases h9 : k = i + 1 + 9
       ·have t2 : ((k : Int) - ((i : Int) + 1) == 9) = true := by rw [beq_iff_eq]; omega
        clear hst h9;go_wp2_with fail
        go_ret3
        exact ⟨_, rfl, quick_out rfl, rfl⟩
       ·have t2 : ((k : Int) - ((i : Int) + 1) == 9) = false := by rw [beq_eq_false_iff_ne]; omega
        have h9' : k < i + 1 + 9 := by omega
        have HX : Hid (10 * dz + ((cd : Int) - 48) = ((dsl s (i + 1) (k + 1) : Nat) : Int)) := by
         unfold Hid; rw [hst.out, HN.out, HCK.out]; omega
        have hx : Hid (0 <= 10 * dz + ((cd : Int) - 48) /\ 10 * dz + ((cd : Int) - 48) < 1000000000) := by
         have := dsl_lt9 s (i + 1) (k + 1) (fun j hj h1 h2 => HL.out.dig2 j hj (by omega)) (by omega);unfold Hid; rw [HX.out]; omega
        clear hst h9;go_wp2_with fail
        go_round
        case rel => exact ⟨k + 1, _, rfl, by omega, by omega, by omega, by go_num, rfl, HX, hx.out.1, hx.out.2⟩
        case measure => simp [RowKit.intOf]; omega
      ·have hde : Hid (dz = (q.den : Int)) := by
              have : k = s.size := by omega
              unfold Hid; rw [HN.out, this, HDEN.out]
       go_wp2_with fail
       go_ret3
       exact ⟨_, rfl, quick_end rfl hv.out hde.out hvb hn1, rfl⟩
    ·have hden : Hid ((1 : Int) = (q.den : Int)) := by
      have := HL.out.den1 (by omega);unfold Hid; rw [this]; rfl
     have t3 : ((i : Int) == (s.size : Int)) = true := by rw [beq_iff_eq]; omega
     go_wp2_with fail
     go_ret3
     exact ⟨_, rfl, quick_end rfl hv.out hden.out hvb (by omega), rfl⟩
 ·have t0 : ((c0 : Int) == 45) = true := by rw [beq_iff_eq]; omega
  have hn : neg = true := hnb;subst hn;clear hc45 hnb;go_enter Tryz.func130, Tryz.ntmps130;go_wp2_with fail;go_loop [2, 3, 5] (fun t2 t3 t5 => ∃ (i : Nat) (nz : Int), t3 = .int .i64 0 /\ 1 <= i /\ i <= n1 /\ i <= 1 + 9 /\ t5 = .int .i64 i /\ t2 = .int .i64 nz /\ Hid (nz = (dsl s 1 i : Nat)) /\ 0 <= nz /\ nz < 1000000000) (fun _ _ t5 => s.size - (RowKit.intOf t5).toNat)
  case atStart => exact ⟨1, 0, rfl, Nat.le_refl _, by omega, by omega, rfl, rfl, by unfold Hid; rw [dsl_self]; rfl, by omega, by omega⟩
  case round =>
   obtain ⟨i, nz, rfl, hi0, hi1, hi2, rfl, rfl, HN, hn0, hn1⟩ := hrel;rcases Nat.lt_or_ge i n1 with hin | hin
   ·have his : i < s.size := by omega
    have hd : isDig s[i] := HL.out.dig i his hi0 hin;unfold isDig at hd;have hst : Hid (dsl s 1 (i + 1) = 10 * dsl s 1 i + (s[i].toNat - 48)) := dsl_step s 1 i his hi0;obtain ⟨ck, hck⟩ : ∃ ck : Nat, s[i].toNat = ck := ⟨_, rfl⟩;rw [hck] at hd;have HCK := hid hck;have t1 : ((ck : Int) != 47) = true := by rw [bne_iff_ne]; omega
    have t1' : ((ck : Int) == 47) = false := by rw [beq_eq_false_iff_ne]; omega
    by_cases h9 : i = 1 + 9
    ·have t2 : ((i : Int) - 1 == 9) = true := by rw [beq_iff_eq]; omega
     clear hst h9;go_wp2_with fail
     go_ret3
     exact ⟨_, rfl, quick_out rfl, rfl⟩
    ·have t2 : ((i : Int) - 1 == 9) = false := by rw [beq_eq_false_iff_ne]; omega
     have h9' : i < 1 + 9 := by omega
     have HX : Hid (10 * nz + ((ck : Int) - 48) = ((dsl s 1 (i + 1) : Nat) : Int)) := by
      unfold Hid; rw [hst.out, HN.out, HCK.out]; omega
     have hx : Hid (0 <= 10 * nz + ((ck : Int) - 48) /\ 10 * nz + ((ck : Int) - 48) < 1000000000) := by
      have := dsl_lt9 s 1 (i + 1) (fun k hk h1 h2 => HL.out.dig k hk h1 (by omega)) (by omega);unfold Hid; rw [HX.out]; omega
     clear hst h9;go_wp2_with fail
     go_round
     case rel => exact ⟨i + 1, _, rfl, by omega, by omega, by omega, by go_num, rfl, HX, hx.out.1, hx.out.2⟩
     case measure => simp [RowKit.intOf]; omega
   ·have hie : i = n1 := by omega
    have HNV : Hid (nz = (q.num.natAbs : Nat)) := by rw [hie] at HN; have := HL.out.num; unfold Hid; rw [HN.out, this]
    subst hie;have hv : Hid (-nz = q.num) := by
     unfold Hid;have := of_decide_eq_true HNEG.out.symm;rw [HNV.out]; omega
    have hvb : -1000000000 < -nz /\ -nz < 1000000000 := by omega
    clear HN;rcases Nat.lt_or_ge i s.size with hls | hge
    ·have hsl := HL.out.slash hls
     have hden := HL.out.den hls;obtain ⟨ck, hck⟩ : ∃ ck : Nat, s[i].toNat = ck := ⟨_, rfl⟩;have hk47 : ck = 47 := by rw [<- hck, hsl]; rfl
     have t1 : ((ck : Int) != 47) = false := by rw [bne_eq_false_iff_eq]; omega
     have t1' : ((ck : Int) == 47) = true := by rw [beq_iff_eq]; omega
     have t3 : ((i : Int) == (s.size : Int)) = false := by rw [beq_eq_false_iff_ne]; omega
     have hi2 : i + 1 < s.size := hden.1;have HDEN := hid hden.2;clear hk47 hsl hden;go_wp2_with fail;go_loop [2, 3, 5] (fun t2 t3 t5 => ∃ (k : Nat) (dz : Int), t2 = .int .i64 (-nz) /\ i + 1 <= k /\ k <= s.size /\ k <= i + 1 + 9 /\ t5 = .int .i64 k /\ t3 = .int .i64 dz /\ Hid (dz = (dsl s (i + 1) k : Nat)) /\ 0 <= dz /\ dz < 1000000000) (fun _ _ t5 => s.size - (RowKit.intOf t5).toNat)
     case atStart => exact ⟨i + 1, 0, rfl, Nat.le_refl _, by omega, by omega, by go_num, rfl, by unfold Hid; rw [dsl_self]; rfl, by omega, by omega⟩
     case round =>
      obtain ⟨k, dz, rfl, hk0, hk1, hk2, rfl, rfl, HN, hn0, hn1⟩ := hrel;rcases Nat.lt_or_ge k s.size with hks | hks
      ·have hd : isDig s[k] := HL.out.dig2 k hks (by omega)
       unfold isDig at hd;have hst : Hid (dsl s (i + 1) (k + 1) = 10 * dsl s (i + 1) k + (s[k].toNat - 48)) := dsl_step s (i + 1) k hks hk0;obtain ⟨cd, hcd⟩ : ∃ cd : Nat, s[k].toNat = cd := ⟨_, rfl⟩;rw [hcd] at hd;have HCK := hid hcd;by_cases h9 : k = i + 1 + 9
       ·have t2 : ((k : Int) - ((i : Int) + 1) == 9) = true := by rw [beq_iff_eq]; omega
        clear hst h9;go_wp2_with fail
        go_ret3
        exact ⟨_, rfl, quick_out rfl, rfl⟩
       ·have t2 : ((k : Int) - ((i : Int) + 1) == 9) = false := by rw [beq_eq_false_iff_ne]; omega
        have h9' : k < i + 1 + 9 := by omega
        have HX : Hid (10 * dz + ((cd : Int) - 48) = ((dsl s (i + 1) (k + 1) : Nat) : Int)) := by
         unfold Hid; rw [hst.out, HN.out, HCK.out]; omega
        have hx : Hid (0 <= 10 * dz + ((cd : Int) - 48) /\ 10 * dz + ((cd : Int) - 48) < 1000000000) := by
         have := dsl_lt9 s (i + 1) (k + 1) (fun j hj h1 h2 => HL.out.dig2 j hj (by omega)) (by omega);unfold Hid; rw [HX.out]; omega
        clear hst h9;go_wp2_with fail
        go_round
        case rel => exact ⟨k + 1, _, rfl, by omega, by omega, by omega, by go_num, rfl, HX, hx.out.1, hx.out.2⟩
        case measure => simp [RowKit.intOf]; omega
      ·have hde : Hid (dz = (q.den : Int)) := by
              have : k = s.size := by omega
              unfold Hid; rw [HN.out, this, HDEN.out]
       go_wp2_with fail
       go_ret3
       exact ⟨_, rfl, quick_end rfl hv.out hde.out hvb hn1, rfl⟩
    ·have hden : Hid ((1 : Int) = (q.den : Int)) := by
      have := HL.out.den1 (by omega);unfold Hid; rw [this]; rfl
     have t3 : ((i : Int) == (s.size : Int)) = true := by rw [beq_iff_eq]; omega
     go_wp2_with fail
     go_ret3
     exact ⟨_, rfl, quick_end rfl hv.out hden.out hvb (by omega), rfl⟩
theorem briefQ_any (q : Rat) (hs : (RS q).size <= 1000000000) (w : World) :
 Calls Tryz.prog 142 #[.string (RS q)] w (Same (QuickIs q) w) := by
 obtain ⟨b0, n1, L⟩ := lies_of q;generalize RS q = s at *;have hs0 : 0 < s.size := Nat.lt_of_lt_of_le (Nat.lt_of_le_of_lt (Nat.zero_le _) L.lt) L.le;rcases Nat.lt_or_ge 9 s.size with h9 | h9
 ·clear L
  go_enter Tryz.func142, Tryz.ntmps142;go_wp2_with fail
  go_ret3
  exact ⟨_, rfl, quick_out rfl, rfl⟩
 ·have hb1 := L.b1
  have hlt := L.lt;have hle := L.le;obtain ⟨c0, hc0⟩ : ∃ c0 : Nat, s[0].toNat = c0 := ⟨_, rfl⟩;have hc45 : c0 = 45 ↔ b0 = 1 := by rw [<- hc0]; exact L.sign hs0
  have HL := hid L;obtain ⟨neg, hneg⟩ : ∃ neg, neg = decide (q.num < 0) := ⟨_, rfl⟩;have HNEG := hid hneg;have hnb : neg = decide (b0 = 1) := by rw [hneg]; simp only [L.neg]
  clear L hneg;rcases (by omega : b0 = 0 \/ b0 = 1) with rfl | rfl
  ·have t0 : ((c0 : Int) == 45) = false := by rw [beq_eq_false_iff_ne]; omega
   have hn : neg = false := hnb;subst hn;clear hc45 hnb;go_enter Tryz.func142, Tryz.ntmps142;go_wp2_with fail;go_loop [2, 5] (fun t2 t5 => ∃ (i : Nat) (nz : Int), 0 <= i /\ i <= n1 /\ t5 = .int .i64 i /\ t2 = .int .i64 nz /\ Hid (nz = (dsl s 0 i : Nat)) /\ 0 <= nz /\ nz < 1000000000) (fun _ t5 => s.size - (RowKit.intOf t5).toNat)
   case atStart => exact ⟨0, 0, Nat.le_refl _, by omega, rfl, rfl, by unfold Hid; rw [dsl_self]; rfl, by omega, by omega⟩
   case round =>
    obtain ⟨i, nz, hi0, hi1, rfl, rfl, HN, hn0, hn1⟩ := hrel;rcases Nat.lt_or_ge i n1 with hin | hin
    ·have his : i < s.size := by omega
     have hd : isDig s[i] := HL.out.dig i his hi0 hin;unfold isDig at hd;have hst : Hid (dsl s 0 (i + 1) = 10 * dsl s 0 i + (s[i].toNat - 48)) := dsl_step s 0 i his hi0;obtain ⟨ck, hck⟩ : ∃ ck : Nat, s[i].toNat = ck := ⟨_, rfl⟩;rw [hck] at hd;have HCK := hid hck;have t1 : ((ck : Int) != 47) = true := by rw [bne_iff_ne]; omega
     have t1' : ((ck : Int) == 47) = false := by rw [beq_eq_false_iff_ne]; omega
     have HX : Hid (10 * nz + ((ck : Int) - 48) = ((dsl s 0 (i + 1) : Nat) : Int)) := by
      unfold Hid; rw [hst.out, HN.out, HCK.out]; omega
     have hx : Hid (0 <= 10 * nz + ((ck : Int) - 48) /\ 10 * nz + ((ck : Int) - 48) < 1000000000) := by
      have := dsl_lt9 s 0 (i + 1) (fun k hk h1 h2 => HL.out.dig k hk h1 (by omega)) (by omega);unfold Hid; rw [HX.out]; omega
     clear hst;go_wp2_with fail
     go_round
     case rel => exact ⟨i + 1, _, by omega, by omega, by go_num, rfl, HX, hx.out.1, hx.out.2⟩
     case measure => simp [RowKit.intOf]; omega
    ·have hie : i = n1 := by omega
     have HNV : Hid (nz = (q.num.natAbs : Nat)) := by rw [hie] at HN; have := HL.out.num; unfold Hid; rw [HN.out, this]
     subst hie;have hv : Hid (nz = q.num) := by
      unfold Hid;have := of_decide_eq_false HNEG.out.symm;have := HNV.out;omega
     have hvb : -1000000000 < nz /\ nz < 1000000000 := by omega
     clear HN;rcases Nat.lt_or_ge i s.size with hls | hge
     ·have hsl := HL.out.slash hls
      have hden := HL.out.den hls;obtain ⟨ck, hck⟩ : ∃ ck : Nat, s[i].toNat = ck := ⟨_, rfl⟩;have hk47 : ck = 47 := by rw [<- hck, hsl]; rfl
      have t1 : ((ck : Int) != 47) = false := by rw [bne_eq_false_iff_eq]; omega
      have t1' : ((ck : Int) == 47) = true := by rw [beq_iff_eq]; omega
      have hi2 : i + 1 < s.size := hden.1;have HDEN := hid hden.2;clear hk47 hsl hden;go_wp2_with fail;go_loop [3, 5] (fun t3 t5 => ∃ (k : Nat) (dz : Int), i + 1 <= k /\ k <= s.size /\ t5 = .int .i64 k /\ t3 = .int .i64 dz /\ Hid (dz = (dsl s (i + 1) k : Nat)) /\ 0 <= dz /\ dz < 1000000000) (fun _ t5 => s.size - (RowKit.intOf t5).toNat)
      case atStart => exact ⟨i + 1, 0, Nat.le_refl _, by omega, by go_num, rfl, by unfold Hid; rw [dsl_self]; rfl, by omega, by omega⟩
      case round =>
       obtain ⟨k, dz, hk0, hk1, rfl, rfl, HN, hn0, hn1⟩ := hrel;rcases Nat.lt_or_ge k s.size with hks | hks
       ·have hd : isDig s[k] := HL.out.dig2 k hks (by omega)
        unfold isDig at hd;have hst : Hid (dsl s (i + 1) (k + 1) = 10 * dsl s (i + 1) k + (s[k].toNat - 48)) := dsl_step s (i + 1) k hks hk0;obtain ⟨cd, hcd⟩ : ∃ cd : Nat, s[k].toNat = cd := ⟨_, rfl⟩;rw [hcd] at hd;have HCK := hid hcd
        have HX : Hid (10 * dz + ((cd : Int) - 48) = ((dsl s (i + 1) (k + 1) : Nat) : Int)) := by
               unfold Hid; rw [hst.out, HN.out, HCK.out]; omega
        have hx : Hid (0 <= 10 * dz + ((cd : Int) - 48) /\ 10 * dz + ((cd : Int) - 48) < 1000000000) := by
               have := dsl_lt9 s (i + 1) (k + 1) (fun j hj h1 h2 => HL.out.dig2 j hj (by omega)) (by omega);unfold Hid; rw [HX.out]; omega
        clear hst;go_wp2_with fail
        go_round
        case rel => exact ⟨k + 1, _, by omega, by omega, by go_num, rfl, HX, hx.out.1, hx.out.2⟩
        case measure => simp [RowKit.intOf]; omega
       ·have hde : Hid (dz = (q.den : Int)) := by
               have : k = s.size := by omega
               unfold Hid; rw [HN.out, this, HDEN.out]
        go_wp2_with fail
        go_ret3
        exact ⟨_, rfl, quick_end (by simp) hv.out hde.out hvb hn1, rfl⟩
     ·have hden : Hid ((1 : Int) = (q.den : Int)) := by
       have := HL.out.den1 (by omega);unfold Hid; rw [this]; rfl
      go_wp2_with fail
      go_ret3
      exact ⟨_, rfl, quick_end (by simp) hv.out hden.out hvb (by omega), rfl⟩
  ·have t0 : ((c0 : Int) == 45) = true := by rw [beq_iff_eq]; omega
   have hn : neg = true := hnb;subst hn;clear hc45 hnb;go_enter Tryz.func142, Tryz.ntmps142;go_wp2_with fail;go_loop [2, 5] (fun t2 t5 => ∃ (i : Nat) (nz : Int), 1 <= i /\ i <= n1 /\ t5 = .int .i64 i /\ t2 = .int .i64 nz /\ Hid (nz = (dsl s 1 i : Nat)) /\ 0 <= nz /\ nz < 1000000000) (fun _ t5 => s.size - (RowKit.intOf t5).toNat)
   case atStart => exact ⟨1, 0, Nat.le_refl _, by omega, rfl, rfl, by unfold Hid; rw [dsl_self]; rfl, by omega, by omega⟩
   case round =>
    obtain ⟨i, nz, hi0, hi1, rfl, rfl, HN, hn0, hn1⟩ := hrel;rcases Nat.lt_or_ge i n1 with hin | hin
    ·have his : i < s.size := by omega
     have hd : isDig s[i] := HL.out.dig i his hi0 hin;unfold isDig at hd;have hst : Hid (dsl s 1 (i + 1) = 10 * dsl s 1 i + (s[i].toNat - 48)) := dsl_step s 1 i his hi0;obtain ⟨ck, hck⟩ : ∃ ck : Nat, s[i].toNat = ck := ⟨_, rfl⟩;rw [hck] at hd;have HCK := hid hck;have t1 : ((ck : Int) != 47) = true := by rw [bne_iff_ne]; omega
     have t1' : ((ck : Int) == 47) = false := by rw [beq_eq_false_iff_ne]; omega
     have HX : Hid (10 * nz + ((ck : Int) - 48) = ((dsl s 1 (i + 1) : Nat) : Int)) := by
      unfold Hid; rw [hst.out, HN.out, HCK.out]; omega
     have hx : Hid (0 <= 10 * nz + ((ck : Int) - 48) /\ 10 * nz + ((ck : Int) - 48) < 1000000000) := by
      have := dsl_lt9 s 1 (i + 1) (fun k hk h1 h2 => HL.out.dig k hk h1 (by omega)) (by omega);unfold Hid; rw [HX.out]; omega
     clear hst;go_wp2_with fail
     go_round
     case rel => exact ⟨i + 1, _, by omega, by omega, by go_num, rfl, HX, hx.out.1, hx.out.2⟩
     case measure => simp [RowKit.intOf]; omega
    ·have hie : i = n1 := by omega
     have HNV : Hid (nz = (q.num.natAbs : Nat)) := by rw [hie] at HN; have := HL.out.num; unfold Hid; rw [HN.out, this]
     subst hie;have hv : Hid (-1 * nz = q.num) := by
      unfold Hid;have := of_decide_eq_true HNEG.out.symm;have := HNV.out;omega
     have hvb : -1000000000 < -1 * nz /\ -1 * nz < 1000000000 := by omega
     clear HN;rcases Nat.lt_or_ge i s.size with hls | hge
     ·have hsl := HL.out.slash hls
      have hden := HL.out.den hls;obtain ⟨ck, hck⟩ : ∃ ck : Nat, s[i].toNat = ck := ⟨_, rfl⟩;have hk47 : ck = 47 := by rw [<- hck, hsl]; rfl
      have t1 : ((ck : Int) != 47) = false := by rw [bne_eq_false_iff_eq]; omega
      have t1' : ((ck : Int) == 47) = true := by rw [beq_iff_eq]; omega
      have hi2 : i + 1 < s.size := hden.1;have HDEN := hid hden.2;clear hk47 hsl hden;go_wp2_with fail;go_loop [3, 5] (fun t3 t5 => ∃ (k : Nat) (dz : Int), i + 1 <= k /\ k <= s.size /\ t5 = .int .i64 k /\ t3 = .int .i64 dz /\ Hid (dz = (dsl s (i + 1) k : Nat)) /\ 0 <= dz /\ dz < 1000000000) (fun _ t5 => s.size - (RowKit.intOf t5).toNat)
      case atStart => exact ⟨i + 1, 0, Nat.le_refl _, by omega, by go_num, rfl, by unfold Hid; rw [dsl_self]; rfl, by omega, by omega⟩
      case round =>
       obtain ⟨k, dz, hk0, hk1, rfl, rfl, HN, hn0, hn1⟩ := hrel;rcases Nat.lt_or_ge k s.size with hks | hks
       ·have hd : isDig s[k] := HL.out.dig2 k hks (by omega)
        unfold isDig at hd;have hst : Hid (dsl s (i + 1) (k + 1) = 10 * dsl s (i + 1) k + (s[k].toNat - 48)) := dsl_step s (i + 1) k hks hk0;obtain ⟨cd, hcd⟩ : ∃ cd : Nat, s[k].toNat = cd := ⟨_, rfl⟩;rw [hcd] at hd;have HCK := hid hcd
        have HX : Hid (10 * dz + ((cd : Int) - 48) = ((dsl s (i + 1) (k + 1) : Nat) : Int)) := by
               unfold Hid; rw [hst.out, HN.out, HCK.out]; omega
        have hx : Hid (0 <= 10 * dz + ((cd : Int) - 48) /\ 10 * dz + ((cd : Int) - 48) < 1000000000) := by
               have := dsl_lt9 s (i + 1) (k + 1) (fun j hj h1 h2 => HL.out.dig2 j hj (by omega)) (by omega);unfold Hid; rw [HX.out]; omega
        clear hst;go_wp2_with fail
        go_round
        case rel => exact ⟨k + 1, _, by omega, by omega, by go_num, rfl, HX, hx.out.1, hx.out.2⟩
        case measure => simp [RowKit.intOf]; omega
       ·have hde : Hid (dz = (q.den : Int)) := by
               have : k = s.size := by omega
               unfold Hid; rw [HN.out, this, HDEN.out]
        go_wp2_with fail
        go_ret3
        exact ⟨_, rfl, quick_end (by simp) hv.out hde.out hvb hn1, rfl⟩
     ·have hden : Hid ((1 : Int) = (q.den : Int)) := by
       have := HL.out.den1 (by omega);unfold Hid; rw [this]; rfl
      go_wp2_with fail
      go_ret3
      exact ⟨_, rfl, quick_end (by simp) hv.out hden.out hvb (by omega), rfl⟩
theorem RS_mkRat {n : Int} {d g : Nat} (hd : 0 < d) (hg : g = Nat.gcd n.natAbs d) {x y : Int} (hx : x = n.tdiv (g : Int)) (hy : y = ((d / g : Nat) : Int)) :
 (y = 1 -> IS x = RS (mkRat n d)) /\ (y ≠ 1 -> (IS x ++ ⟨#[47]⟩) ++ IS y = RS (mkRat n d)) := by
 have h := RL_mkRat n d (by omega);rw [<- hg] at h;have hdv : n / (g : Int) = x := by
  rw [hx];have : (g : Int) ∣ n := by
   rw [hg]; exact Int.ofNat_dvd_left.2 (Nat.gcd_dvd_left _ _)
  exact (Int.tdiv_eq_ediv_of_dvd this).symm
 rw [hdv] at h;refine ⟨fun h1 => ?_, fun h1 => ?_⟩
 ·rw [if_pos (by omega)] at h
  exact ba_ext (by rw [RS_list, h, IS_list])
 ·rw [if_neg (by omega)] at h
  apply ba_ext;rw [RS_list, h, ba_append, ba_append, IS_list, IS_list, hy, itoa_nat];simp
theorem IS_size20 {x : Int} (h : -10000000000000000000 < x /\ x < 10000000000000000000) : (IS x).size <= 20 := by
 rw [IS_size]
 exact itoa_len_le (k := 19) (by decide) (by have : (10 : Nat) ^ 19 = 10000000000000000000 := by decide
                                             omega)
theorem smallQ_any (n : Int) (d : Nat) (dz : Int) (hdz : dz = (d : Int)) (hd : 0 < d) (hn : -2000000000000000000 <= n /\ n <= 2000000000000000000) (hd2 : dz <= 1000000000000000000) (w : World) (hg : Good w) :
 Calls Tryz.prog 131 #[.int .i64 n, .int .i64 dz] w (Ret (fun v _ => v = .string (RS (mkRat n d))) w) := by
 have hd0 : 0 < dz := by omega
 have HDZ := hid hdz;clear hdz;go_enter Tryz.func131, Tryz.ntmps131;obtain ⟨G, hG⟩ : ∃ G, G = Nat.gcd n.natAbs d := ⟨_, rfl⟩;have hGp : 0 < G := by rw [hG]; exact Nat.gcd_pos_of_pos_right _ hd
 have hGd : G <= d := by rw [hG]; exact Nat.le_of_dvd hd (Nat.gcd_dvd_right _ _)
 have HG := hid hG;clear hG;go_wp2_with fail;go_loopw [5, 6] (fun t5 t6 wr => ∃ m k : Int, t5 = .int .i64 m /\ t6 = .int .i64 k /\ Hid (Nat.gcd m.natAbs k.natAbs = G) /\ (-2000000000000000000 <= m /\ m <= 2000000000000000000) /\ (-2000000000000000000 <= k /\ k <= 2000000000000000000) /\ ∃ j, wr = w.drewN j) (fun _ t6 _ => (RowKit.intOf t6).natAbs)
 case atStart => exact ⟨n, dz, rfl, rfl, by unfold Hid; rw [HG.out, HDZ.out]; rfl, hn, by omega, 0, rfl⟩
 case round =>
  obtain ⟨m, k, rfl, rfl, HM, hm, hk, j, rfl⟩ := hrel;by_cases hz : k = 0
  ·subst hz
   have hab : m.natAbs = G := by have := HM.out; rwa [Int.natAbs_zero, Nat.gcd_zero_right] at this
   have hgj := hg.drewN j;obtain ⟨x, hx⟩ : ∃ x, x = n.tdiv (G : Int) := ⟨_, rfl⟩;obtain ⟨y, hy⟩ : ∃ y : Int, y = dz / (G : Int) := ⟨_, rfl⟩;have hyn : y = ((d / G : Nat) : Int) := by rw [hy, HDZ.out]; rfl
   have HRS := hid (RS_mkRat hd HG.out hx hyn);have hxb := tdiv_lim (y := (G : Int)) (x := n) (M := 2000000000000000001) (by omega);rw [<- hx] at hxb;have hyb : 0 <= y /\ y <= 1000000000000000000 := by
    rw [hyn];have h1 : d / G <= d := Nat.div_le_self _ _;have := HDZ.out;generalize d / G = z at *;omega
   obtain ⟨gz, hgz⟩ : ∃ gz : Int, gz = (G : Int) := ⟨_, rfl⟩;have hgz0 : 1 <= gz := by omega
   have hgz1 : ¬ gz = 0 := by omega
   have hgzb : (gz == 0) = false := by rw [beq_eq_false_iff_ne]; omega
   rw [<- hgz] at hx hy;have hxw := hxb;rw [hx] at hxw;have HX := hid hx;have HY := hid hy;have hsx := IS_size20 (x := x) (by omega);have hsy := IS_size20 (x := y) (by omega);rcases Int.lt_or_le m 0 with hneg | hpos
   case' inl =>
    have hmg : Hid (-m = gz) := by unfold Hid; omega
    clear hab hGp hGd hgz hx hy hyn;go_upto_region 6 with fail;rw [hmg.out]
   case' inr =>
    have hmg : m = gz := by omega
    subst hmg;clear hab hGp hGd hgz hx hy hyn;go_upto_region 6 with fail
   all_goals
    go_quiet (fail);rw [<- HX.out, <- HY.out];have hgq := hgj.drewN nq;have hbq : Below w.heap.size w ((w.drewN j).drewN nq) := (below_drewN w j).trans (below_drewN (w.drewN j) nq);generalize (w.drewN j).drewN nq = wq at *;by_cases hy1 : y = 1
    ·have HF := hid (HRS.out.1 hy1)
     have ty : (y == 1) = true := by rw [beq_iff_eq]; exact hy1
     clear hy1;go_wp2_with fail;refine (itoa_any x (by omega) (by omega) _ hgq).mono ?_;rintro e w2 ⟨_, rfl, rfl, hb2⟩;rw [HF.out];go_wp2_with fail;go_ret;exact ⟨_, rfl, rfl, hbq.trans (hb2.mono hbq.size)⟩
    ·have HF := hid (HRS.out.2 hy1)
     have ty : (y == 1) = false := by rw [beq_eq_false_iff_ne]; exact hy1
     clear hy1;go_wp2_with fail;refine (itoa_any x (by omega) (by omega) _ hgq).mono ?_;rintro e w2 ⟨_, rfl, rfl, hb2⟩;go_wp2_with fail;refine (itoa_any y (by omega) (by omega) _ (hgq.below hb2)).mono ?_;rintro e w3 ⟨_, rfl, rfl, hb3⟩;go_wp2_with fail;go_ret;exact ⟨_, rfl, congrArg Value.string HF.out, hbq.trans ((hb2.trans (hb3.mono hb2.size)).mono hbq.size)⟩
  ·have hz1 : (k != 0) = true := by rw [bne_iff_ne]; exact hz
   have hzb : (k == 0) = false := by rw [beq_eq_false_iff_ne]; exact hz
   have hlt : (m.tmod k).natAbs < k.natAbs := by rw [tmod_natAbs]; exact Nat.mod_lt _ (by omega)
   have HN : Hid (Nat.gcd k.natAbs (m.tmod k).natAbs = G) := by
    unfold Hid; rw [tmod_natAbs, gcd_step]; exact HM.out
   have hn2 : -2000000000000000000 <= m.tmod k /\ m.tmod k <= 2000000000000000000 := by omega
   go_wp2_with fail;go_quiet (fail);go_wp2_with fail;go_roundw
   case rel => exact ⟨k, m.tmod k, rfl, rfl, HN, hk, hn2, dr_step ⟨j, rfl⟩ _⟩
   case measure => exact hlt
theorem RS_mkRat_one (n : Int) : IS n = RS (mkRat n 1) := by
 have h := (RS_mkRat (n := n) (d := 1) (g := 1) (by omega) (by rw [Nat.gcd_one_right]) (x := n) (y := 1) (by rw [show ((1 : Nat) : Int) = 1 from rfl, Int.tdiv_one]) (by rfl)).1 rfl;exact h
theorem lowestQ_any (n : Int) (d : Nat) (dz : Int) (hdz : dz = (d : Int)) (hd : 0 < d) (hn : -2000000000000000000 <= n /\ n <= 2000000000000000000) (hd2 : dz <= 1000000000000000000) (w : World) (hg : Good w) :
 Calls Tryz.prog 143 #[.int .i64 n, .int .i64 dz] w (Ret (fun v _ => v = .string (RS (mkRat n d))) w) := by
 have hd0 : 0 < dz := by omega
 have HDZ := hid hdz;clear hdz;by_cases h1 : dz = 1
 ·have HF : Hid (IS n = RS (mkRat n d)) := by
   have e : d = 1 := by have := HDZ.out; omega
   rw [e]; exact RS_mkRat_one n
  have t1 : (dz != 1) = false := by rw [bne_eq_false_iff_eq]; exact h1
  have t2 : (dz == 1) = true := by rw [beq_iff_eq]; exact h1
  clear h1;go_enter Tryz.func143, Tryz.ntmps143;go_wp2_with fail;refine (itoa_any n (by omega) (by omega) _ hg).mono ?_;rintro e w2 ⟨_, rfl, rfl, hb2⟩;rw [HF.out];go_wp2_with fail;go_ret;exact ⟨_, rfl, rfl, hb2⟩
 ·have t1 : (dz != 1) = true := by rw [bne_iff_ne]; exact h1
  obtain ⟨G, hG⟩ : ∃ G, G = Nat.gcd n.natAbs d := ⟨_, rfl⟩;have hGp : 0 < G := by rw [hG]; exact Nat.gcd_pos_of_pos_right _ hd
  have HG := hid hG;have hmx : 0 <= max n (-n) /\ max n (-n) <= 2000000000000000000 := by omega
  have hmn : (max n (-n)).natAbs = n.natAbs := by omega
  have HMN := hid hmn;clear hG h1 hmn;go_enter Tryz.func143, Tryz.ntmps143;go_wp2_with fail;go_loopw [5, 6] (fun t5 t6 wr => ∃ m k : Int, t5 = .int .i64 m /\ t6 = .int .i64 k /\ Hid (Nat.gcd m.natAbs k.natAbs = G) /\ (0 <= m /\ m <= 2000000000000000000) /\ (0 <= k /\ k <= 2000000000000000000) /\ ∃ j, wr = w.drewN j) (fun _ t6 _ => (RowKit.intOf t6).natAbs)
  case atStart => exact ⟨max n (-n), dz, rfl, rfl, by unfold Hid; rw [HMN.out, HG.out, HDZ.out]; rfl, hmx, by omega, 0, rfl⟩
  case round =>
   obtain ⟨m, k, rfl, rfl, HM, hm, hk, j, rfl⟩ := hrel;by_cases hz : k = 0
   ·subst hz
    have hab : m.natAbs = G := by have := HM.out; rwa [Int.natAbs_zero, Nat.gcd_zero_right] at this
    have hgj := hg.drewN j;have hmG : m = (G : Int) := by omega
    obtain ⟨x, hx⟩ : ∃ x, x = n.tdiv m := ⟨_, rfl⟩;obtain ⟨y, hy⟩ : ∃ y : Int, y = dz / m := ⟨_, rfl⟩;have hyn : y = ((d / G : Nat) : Int) := by rw [hy, HDZ.out, hmG]; rfl
    have HRS := hid (RS_mkRat hd HG.out (x := x) (by rw [hx, hmG]) hyn);have hxb := tdiv_lim (y := m) (x := n) (M := 2000000000000000001) (by omega);have hxw := hxb;rw [<- hx] at hxb;have hyb : 0 <= y /\ y <= 1000000000000000000 := by
     rw [hyn];have h1 : d / G <= d := Nat.div_le_self _ _;have := HDZ.out;generalize d / G = z at *;omega
    have hgz0 : 1 <= m := by omega
    have hgz1 : ¬ m = 0 := by omega
    have hgzb : (m == 0) = false := by rw [beq_eq_false_iff_ne]; omega
    have HX := hid hx;have HY := hid hy;have hsx := IS_size20 (x := x) (by omega);have hsy := IS_size20 (x := y) (by omega);clear hab hGp hx hy hyn hmG;go_upto_region 5 with fail;go_quiet (fail);rw [<- HX.out, <- HY.out];have hgq := hgj.drewN nq;have hbq : Below w.heap.size w ((w.drewN j).drewN nq) := (below_drewN w j).trans (below_drewN (w.drewN j) nq);generalize (w.drewN j).drewN nq = wq at *;by_cases hy1 : y = 1
    ·have HF := hid (HRS.out.1 hy1)
     have ty : (y == 1) = true := by rw [beq_iff_eq]; exact hy1
     clear hy1;go_wp2_with fail;refine (itoa_any x (by omega) (by omega) _ hgq).mono ?_;rintro e w2 ⟨_, rfl, rfl, hb2⟩;rw [HF.out];go_wp2_with fail;go_ret;exact ⟨_, rfl, rfl, hbq.trans (hb2.mono hbq.size)⟩
    ·have HF := hid (HRS.out.2 hy1)
     have ty : (y == 1) = false := by rw [beq_eq_false_iff_ne]; exact hy1
     clear hy1;go_wp2_with fail;refine (itoa_any x (by omega) (by omega) _ hgq).mono ?_;rintro e w2 ⟨_, rfl, rfl, hb2⟩;go_wp2_with fail;refine (itoa_any y (by omega) (by omega) _ (hgq.below hb2)).mono ?_;rintro e w3 ⟨_, rfl, rfl, hb3⟩;go_wp2_with fail;go_ret;exact ⟨_, rfl, congrArg Value.string HF.out, hbq.trans ((hb2.trans (hb3.mono hb2.size)).mono hbq.size)⟩
   ·have hz1 : (k != 0) = true := by rw [bne_iff_ne]; exact hz
    have hzb : (k == 0) = false := by rw [beq_eq_false_iff_ne]; exact hz
    have hmk : m % k = m.tmod k := (Int.tmod_eq_emod_of_nonneg hm.1).symm;have hlt : (m % k).natAbs < k.natAbs := by rw [hmk, tmod_natAbs]; exact Nat.mod_lt _ (by omega)
    have HN : Hid (Nat.gcd k.natAbs (m % k).natAbs = G) := by
     unfold Hid; rw [hmk, tmod_natAbs, gcd_step]; exact HM.out
    have hn2 : 0 <= m % k /\ m % k <= 2000000000000000000 := by have := Int.emod_nonneg m hz; omega
    have hk1 : 1 <= k := by omega
    clear hmk;go_wp2_with fail;go_quiet (fail);go_wp2_with fail;go_roundw
    case rel => exact ⟨k, m % k, rfl, rfl, HN, hk, hn2, dr_step ⟨j, rfl⟩ _⟩
    case measure => exact hlt
theorem IS_lim9 {a : Int} (h : (IS a).size <= 9) : -1000000000 < a /\ a < 1000000000 := by
 have h2 := natAbs_lt_of_len (k := 9) (by decide) (by rw [<- IS_size]; exact h);have h3 : (10 : Nat) ^ 9 = 1000000000 := by decide
 omega
theorem small2Q_any (a b n : Int) (d : Nat) (dz : Int) (hdz : dz = (d : Int)) (hd : 0 < d) (hsa : (IS a).size <= 9) (hsb : (IS b).size <= 9)
 (hab : (b = dz /\ a = n) \/ (b = -dz /\ a = -n)) (w : World) (hg : Good w) :
 Calls Tryz.prog 63 #[.string (IS a), .string (IS b)] w (Ret (fun v _ => v = .string (RS (mkRat n d))) w) := by
 have hla := IS_lim9 hsa;have hlb := IS_lim9 hsb;have hd0 : 0 < dz := by omega
 have hn : -1000000000 < n /\ n < 1000000000 := by omega
 have hd2 : dz < 1000000000 := by omega
 have HDZ := hid hdz;clear hdz;obtain ⟨G, hG⟩ : ∃ G, G = Nat.gcd n.natAbs d := ⟨_, rfl⟩;have hGp : 0 < G := by rw [hG]; exact Nat.gcd_pos_of_pos_right _ hd
 have HG := hid hG;clear hG;obtain ⟨m0, hm0⟩ : ∃ m0 : Int, m0 = (n.natAbs : Int) := ⟨_, rfl⟩;have HM0 : Hid (m0.natAbs = n.natAbs) := by unfold Hid; omega
 have hm1 : 0 <= m0 /\ m0 < 1000000000 := by omega
 have HM1 := hid hm0;clear hm0;rcases hab with ⟨e1, e2⟩ | ⟨e1, e2⟩
 case' inl =>
  have e1 := e1.symm;have e2 := e2.symm;subst e1 e2;have t1 : decide (dz < 0) = false := by rw [decide_eq_false_iff_not]; omega
  go_enter Tryz.func63, Tryz.ntmps63;go_wp2_with fail;refine (atoi_any n (by omega) _).mono ?_;rintro e w1 ⟨_, rfl, rfl, hb1⟩;go_wp2_with fail;refine (atoi_any dz (by omega) _).mono ?_;rintro e w2 ⟨_, rfl, rfl, hb2⟩;go_upto_region 5 with fail;clear hla hlb t1 hsa hsb
 case' inr =>
  have t1 : decide (b < 0) = true := by rw [decide_eq_true_iff]; omega
  have E1 : Hid (-b = dz) := by unfold Hid; omega
  have E2 : Hid (-a = n) := by unfold Hid; omega
  clear e1 e2;go_enter Tryz.func63, Tryz.ntmps63;go_wp2_with fail;refine (atoi_any a (by omega) _).mono ?_;rintro e w1 ⟨_, rfl, rfl, hb1⟩;go_wp2_with fail;refine (atoi_any b (by omega) _).mono ?_;rintro e w2 ⟨_, rfl, rfl, hb2⟩;go_upto_region 5 with fail;rw [E1.out, E2.out];clear E1 E2 hla hlb t1 hsa hsb
 all_goals
  have hbz := hb1.trans (hb2.mono hb1.size);have hg2 := hg.below hbz;clear hb1 hb2;rcases Int.lt_or_le n 0 with hneg | hpos
  case' inl =>
   have t2 : decide (n < 0) = true := by rw [decide_eq_true_iff]; exact hneg
   have hmg : Hid (-n = m0) := by have := HM1.out; unfold Hid; omega
   go_wp2_with fail;rw [hmg.out];clear hneg t2 hmg
  case' inr =>
   have t2 : decide (n < 0) = false := by rw [decide_eq_false_iff_not]; omega
   have hmg : n = m0 := by have := HM1.out; omega
   clear HM1;subst hmg;go_wp2_with fail;clear hpos t2
  all_goals
   go_loopw [9, 10] (fun t5 t6 wr => ∃ m k : Int, t5 = .int .i64 m /\ t6 = .int .i64 k /\ Hid (Nat.gcd m.natAbs k.natAbs = G) /\ (0 <= m /\ m <= 1000000000) /\ (0 <= k /\ k <= 1000000000) /\ ∃ j, wr = w2.drewN j) (fun _ t6 _ => (RowKit.intOf t6).natAbs)
   case atStart => exact ⟨_, dz, rfl, rfl, by unfold Hid; rw [HDZ.out]; first | (rw [HM0.out, HG.out]; rfl) | (rw [HG.out]; rfl), by omega, by omega, 0, rfl⟩
   case round =>
    obtain ⟨m, k, rfl, rfl, HM, hm, hk, j, rfl⟩ := hrel;by_cases hz : k = 0
    ·subst hz
     have hab : m.natAbs = G := by have := HM.out; rwa [Int.natAbs_zero, Nat.gcd_zero_right] at this
     have hgj := hg2.drewN j;have hmG : m = (G : Int) := by omega
     obtain ⟨x, hx⟩ : ∃ x, x = n.tdiv m := ⟨_, rfl⟩;obtain ⟨y, hy⟩ : ∃ y : Int, y = dz / m := ⟨_, rfl⟩;have hyn : y = ((d / G : Nat) : Int) := by rw [hy, HDZ.out, hmG]; rfl
     have HRS := hid (RS_mkRat hd HG.out (x := x) (by rw [hx, hmG]) hyn);have hxb := tdiv_lim (y := m) (x := n) (M := 1000000001) (by omega);have hxw := hxb;rw [<- hx] at hxb;have hyb : 0 <= y /\ y <= 1000000000 := by
      rw [hyn];have h1 : d / G <= d := Nat.div_le_self _ _;have := HDZ.out;generalize d / G = z at *;omega
     have hgz0 : 1 <= m := by omega
     have hgz1 : ¬ m = 0 := by omega
     have hgzb : (m == 0) = false := by rw [beq_eq_false_iff_ne]; omega
     have HX := hid hx;have HY := hid hy;have hsx := IS_size20 (x := x) (by omega);have hsy := IS_size20 (x := y) (by omega);clear hab hGp hx hy hyn hmG;go_upto_region 10 with fail;go_quiet (fail);rw [<- HX.out, <- HY.out];have hgq := hgj.drewN nq;have hbq : Below w.heap.size w ((w2.drewN j).drewN nq) := hbz.trans (((below_drewN w2 j).trans (below_drewN (w2.drewN j) nq)).mono hbz.size);generalize (w2.drewN j).drewN nq = wq at *;by_cases hy1 : y = 1
     ·have HF := hid (HRS.out.1 hy1)
      have ty : (y == 1) = true := by rw [beq_iff_eq]; exact hy1
      clear hy1;go_wp2_with fail;refine (itoa_any x (by omega) (by omega) _ hgq).mono ?_;rintro e w3 ⟨_, rfl, rfl, hb2⟩;rw [HF.out];go_wp2_with fail;go_ret;exact ⟨_, rfl, rfl, hbq.trans (hb2.mono hbq.size)⟩
     ·have HF := hid (HRS.out.2 hy1)
      have ty : (y == 1) = false := by rw [beq_eq_false_iff_ne]; exact hy1
      clear hy1;go_wp2_with fail;refine (itoa_any x (by omega) (by omega) _ hgq).mono ?_;rintro e w3 ⟨_, rfl, rfl, hb2⟩;go_wp2_with fail;refine (itoa_any y (by omega) (by omega) _ (hgq.below hb2)).mono ?_;rintro e w4 ⟨_, rfl, rfl, hb3⟩;go_wp2_with fail;go_ret;exact ⟨_, rfl, congrArg Value.string HF.out, hbq.trans ((hb2.trans (hb3.mono hb2.size)).mono hbq.size)⟩
    ·have hz1 : (k != 0) = true := by rw [bne_iff_ne]; exact hz
     have hzb : (k == 0) = false := by rw [beq_eq_false_iff_ne]; exact hz
     have hmk : m % k = m.tmod k := (Int.tmod_eq_emod_of_nonneg hm.1).symm;have hlt : (m % k).natAbs < k.natAbs := by rw [hmk, tmod_natAbs]; exact Nat.mod_lt _ (by omega)
     have HN : Hid (Nat.gcd k.natAbs (m % k).natAbs = G) := by
      unfold Hid; rw [hmk, tmod_natAbs, gcd_step]; exact HM.out
     have hn2 : 0 <= m % k /\ m % k <= 1000000000 := by have := Int.emod_nonneg m hz; omega
     have hk1 : 1 <= k := by omega
     clear hmk;go_wp2_with fail;go_quiet (fail);go_wp2_with fail;go_roundw
     case rel => exact ⟨k, m % k, rfl, rfl, HN, hk, hn2, dr_step ⟨j, rfl⟩ _⟩
     case measure => exact hlt
theorem IS_size_mono {x n : Int} {k : Nat} (h : x.natAbs <= n.natAbs) (hn : (IS n).size <= k) (hk : 0 < k) : (IS x).size <= k + 1 := by
 have h1 := abs_size hn;have h2 := nat_size_mono h h1 hk;rw [IS_size, itoa_nat, decDigits_length] at h2;rw [IS_size, itoa_len];split <;> omega
theorem gcd_fact {n : Int} {d G : Nat} (hd : 0 < d) (hG : G = Nat.gcd n.natAbs d) :
 0 < G /\ G <= d /\ n / (G : Int) = n.tdiv (G : Int) /\ (n / (G : Int)).natAbs <= n.natAbs /\ (d : Int) / (G : Int) = ((d / G : Nat) : Int) := by
 have h1 : 0 < G := by rw [hG]; exact Nat.gcd_pos_of_pos_right _ hd
 have h2 : G <= d := by rw [hG]; exact Nat.le_of_dvd hd (Nat.gcd_dvd_right _ _)
 have hdv : (G : Int) ∣ n := by rw [hG]; exact Int.ofNat_dvd_left.2 (Nat.gcd_dvd_left _ _)
 have e := Int.tdiv_eq_ediv_of_dvd hdv;exact ⟨h1, h2, e.symm, by rw [<- e, Int.natAbs_tdiv]; exact Nat.div_le_self _ _, rfl⟩
theorem fractionQ_any (a b n : Int) (d : Nat) (dz : Int) (hdz : dz = (d : Int)) (hd : 0 < d) (hsa : (IS a).size <= 90000) (hsb : (IS b).size <= 90000)
 (hab : (b = dz /\ a = n) \/ (b = -dz /\ a = -n)) (w : World) (hg : Good w) :
 Calls Tryz.prog 25 #[.string (IS a), .string (IS b)] w (Ret (fun v _ => v = .string (RS (mkRat n d))) w) := by
 by_cases hq : (IS a).size <= 9 /\ (IS b).size <= 9
 ·obtain ⟨h1, h2⟩ := hq
  have HAB := hid hab;have HDZ := hid hdz;clear hab hdz;go_enter Tryz.func25, Tryz.ntmps25;go_wp2_with fail;refine (small2Q_any a b n d dz HDZ.out hd h1 h2 HAB.out _ hg).mono ?_;rintro e w1 ⟨_, rfl, rfl, hb1⟩;go_wp2_with fail;go_ret;exact ⟨_, rfl, rfl, hb1⟩
 ·obtain ⟨G, hG⟩ : ∃ G, G = Nat.gcd n.natAbs d := ⟨_, rfl⟩
  obtain ⟨hGp, hGd, hG1, hG2, hG3⟩ := gcd_fact hd hG;have hGC : Hid (((Int.gcd n dz : Nat) : Int) = (G : Int)) := by unfold Hid; rw [hG, hdz]; rfl
  obtain ⟨x, hx⟩ : ∃ x, x = n / (G : Int) := ⟨_, rfl⟩;obtain ⟨y, hy⟩ : ∃ y : Int, y = dz / (G : Int) := ⟨_, rfl⟩;have hyn : y = ((d / G : Nat) : Int) := by rw [hy, hdz]; rfl
  have HRS := hid (RS_mkRat hd hG (x := x) (by rw [hx, hG1]) hyn);have hsn : (IS n).size <= 90001 := by
   rcases hab with ⟨_, h⟩ | ⟨_, h⟩
   ·rw [<- h]; omega
   ·rw [show n = -a by omega]; exact neg_size hsa
  have hsd : (IS dz).size <= 90001 := by
   rcases hab with ⟨h, _⟩ | ⟨h, _⟩
   ·rw [<- h]; omega
   ·rw [show dz = -b by omega]; exact neg_size hsb
  have hsG : (IS (G : Int)).size <= 90001 := nat_size_mono hGd (by rw [<- hdz]; exact hsd) (by omega);have hsx : (IS x).size <= 90002 := IS_size_mono (by rw [hx]; exact hG2) hsn (by omega);have hsy : (IS y).size <= 90002 := IS_size_mono (n := dz) (by rw [hyn, hdz]; exact Nat.div_le_self d G) hsd (by omega);have hd0 : 0 < dz := by omega
  have hy9 := IS_eq49 y;obtain ⟨gz, hgz⟩ : ∃ gz : Int, gz = (G : Int) := ⟨_, rfl⟩;rw [<- hgz] at hGC hx hy hsG;have hG0 : Hid (gz ≠ 0) := by unfold Hid; omega
  have HX := hid hx;have HY := hid hy;have hqo : ¬ (IS a).size <= 9 \/ ((IS a).size <= 9 /\ ¬ (IS b).size <= 9) := by omega
  clear hG hG1 hG2 hG3 hGp hGd hyn hdz hx hy hgz hq;have hsa' : (IS a).size <= 100000 := by omega
  have hsb' : (IS b).size <= 100000 := by omega
  rcases hab with ⟨e1, e2⟩ | ⟨e1, e2⟩
  case' inl =>
   have e1 := e1.symm;have e2 := e2.symm;subst e1 e2;have hbn : ¬ dz < 0 := by omega
   rcases hqo with hq | ⟨hq, hq2⟩
   all_goals
    go_enter Tryz.func25, Tryz.ntmps25;go_wp2_with fail;refine ((signR_any dz hsb' _).mono fun _ _ h => h.ret).mono ?_;rintro e w1 ⟨_, rfl, rfl, hb1⟩;go_upto_region 5 with fail
  case' inr =>
   have hbn : b < 0 := by omega
   have E1 : Hid (-b = dz) := by unfold Hid; omega
   have E2 : Hid (-a = n) := by unfold Hid; omega
   clear e1 e2;rcases hqo with hq | ⟨hq, hq2⟩
   all_goals
    go_enter Tryz.func25, Tryz.ntmps25;go_wp2_with fail;refine ((signR_any b hsb' _).mono fun _ _ h => h.ret).mono ?_;rintro e w0 ⟨_, rfl, rfl, hb0⟩;go_wp2_with fail;refine ((negR_any a hsa' _).mono fun _ _ h => h.ret).mono ?_;rintro e w02 ⟨_, rfl, rfl, hb02⟩;rw [E2.out];go_wp2_with fail;refine ((negR_any b hsb' _).mono fun _ _ h => h.ret).mono ?_;rintro e w1 ⟨_, rfl, rfl, hb03⟩;rw [E1.out];have hb1 := hb0.trans ((hb02.trans (hb03.mono hb02.size)).mono hb0.size);clear hb0 hb02 hb03;go_upto_region 5 with fail
  all_goals
   clear hq;have hgb := hg.below hb1;go_wp2_with fail;refine (gcdR_any n dz (by omega) (by omega) _ hgb).mono ?_;rintro e w2 ⟨_, rfl, rfl, hb2⟩;rw [hGC.out];have hgb2 := hgb.below hb2;have hb3 := hb1.trans (hb2.mono hb1.size);clear hb1 hb2;go_wp2_with fail;refine (divmodR_any n gz (by omega) (by omega) hG0.out _ hgb2).mono ?_;rintro e w3 ⟨_, rfl, rfl, hb4⟩;rw [<- HX.out];have hgb3 := hgb2.below hb4;have hb5 := hb3.trans (hb4.mono hb3.size);clear hb3 hb4;go_wp2_with fail;refine (divmodR_any dz gz (by omega) (by omega) hG0.out _ hgb3).mono ?_;rintro e w4 ⟨_, rfl, rfl, hb6⟩;rw [<- HY.out];have hb7 := hb5.trans (hb6.mono hb5.size);clear hb5 hb6;by_cases hy1 : y = 1
   ·have HF := hid (HRS.out.1 hy1)
    rw [decide_eq_true hy1] at hy9;clear hy1;go_wp2_with fail;go_ret;exact ⟨_, rfl, congrArg Value.string HF.out, hb7⟩
   ·have HF := hid (HRS.out.2 hy1)
    rw [decide_eq_false hy1] at hy9;clear hy1;go_wp2_with fail;go_ret;exact ⟨_, rfl, congrArg Value.string HF.out, hb7⟩
end Go.Proofs.YtbfcmipplhkkeaaGreatDoor
