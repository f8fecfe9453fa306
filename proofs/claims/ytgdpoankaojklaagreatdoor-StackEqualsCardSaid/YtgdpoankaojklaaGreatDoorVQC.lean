import Derived.Test.YtgdpoankaojklaaGreatDoorVC1
import Derived.Lib.IndexBytes
/- Klipperef02 and rational Klipperef02 Rational -/
set_option maxHeartbeats 1000000
set_option maxRecDepth 100000
namespace Go.Proofs.YtgdpoankaojklaaGreatDoor
open Go.RowKit Go.Lib
def fst47 (l : List UInt8) : List UInt8 := if 0 <= indexByte l 47 then l.take (indexByte l 47).toNat else l
def snd47 (l : List UInt8) : List UInt8 := if 0 <= indexByte l 47 then l.drop ((indexByte l 47).toNat + 1) else [49]
theorem fst47_RL (q : Rat) : fst47 (RL q) = itoa q.num := by
 unfold fst47;by_cases h : q.den = 1
 ·rw [RL_idx_one h, if_neg (by omega), RL_one_den h]
 ·rw [RL_idx_den h, if_pos (by omega), RL_den h]; simp
theorem snd47_RL (q : Rat) : snd47 (RL q) = decDigits q.den := by
 unfold snd47;by_cases h : q.den = 1
 ·rw [RL_idx_one h, if_neg (by omega), h, decDigits_one (i := 1) (by omega)]; rfl
 ·rw [RL_idx_den h, if_pos (by omega), RL_den h]
  rw [show ((itoa q.num).length : Int).toNat + 1 = (itoa q.num).length + 1 by omega];simp
theorem den_IS (q : Rat) : BS (decDigits q.den) = IS (q.den : Int) := by unfold IS; rw [itoa_nat]; rfl
theorem parts_rat (q : Rat) (hs : (RS q).size < 1000000000) (w : World) (hg : Good w) :
 Calls Tryz.prog 71 #[.string (RS q)] w (Drawn (fun v => v = .tuple #[.string (IS q.num), .string (IS (q.den : Int))]) w) := by
 have hc : Hid (cut (RS q).data.toList [47] = if q.den = 1 then (RL q, [], false) else (itoa q.num, decDigits q.den, true)) := by
  unfold Hid cut;rw [RS_list, index_one];by_cases h : q.den = 1
  ·rw [RL_idx_one h, if_neg (by omega), if_pos h]
  ·have e := fst47_RL q
   have e2 := snd47_RL q;unfold fst47 at e;unfold snd47 at e2;rw [RL_idx_den h] at e e2 ⊢;rw [if_pos (by omega)] at e e2 ⊢;rw [if_neg h, e];rw [<- e2]; rfl
 by_cases hd : q.den = 1
 ·have H1 : Hid (BS (RL q) = IS q.num /\ (⟨#[49]⟩ : ByteArray) = IS (q.den : Int)) := by
   unfold Hid;rw [RL_one_den hd, hd];exact ⟨rfl, by rw [show ((1 : Nat) : Int) = 1 from rfl, IS_one]⟩
  have hc2 : Hid (cut (RS q).data.toList [47] = (RL q, [], false)) := by unfold Hid; rw [hc.out, if_pos hd]
  clear hd;go_enter Tryz.func71, Tryz.ntmps71;go_wp2_with fail;refine (cut_any (RS q) hs _ hg).mono ?_;rintro e w1 ⟨_, rfl, rfl, j, rfl⟩;rw [hc2.out];go_wp2_with fail;go_ret2;exact ⟨_, rfl, tup2s H1.out.1 H1.out.2, j, rfl⟩
 ·have H1 : Hid (BS (itoa q.num) = IS q.num /\ BS (decDigits q.den) = IS (q.den : Int)) := ⟨rfl, den_IS q⟩
  have hc2 : Hid (cut (RS q).data.toList [47] = (itoa q.num, decDigits q.den, true)) := by unfold Hid; rw [hc.out, if_neg hd]
  clear hd;go_enter Tryz.func71, Tryz.ntmps71;go_wp2_with fail;refine (cut_any (RS q) hs _ hg).mono ?_;rintro e w1 ⟨_, rfl, rfl, j, rfl⟩;rw [hc2.out];go_wp2_with fail;go_ret2;exact ⟨_, rfl, tup2s H1.out.1 H1.out.2, j, rfl⟩
structure Lies (q : Rat) (s : ByteArray) (b0 n1 : Nat) : Prop where
 b1 : b0 <= 1
 neg : b0 = 1 ↔ q.num < 0
 lt : b0 < n1
 le : n1 <= s.size
 sign : (h : 0 < s.size) -> (s[0].toNat = 45 ↔ b0 = 1)
 dig : ∀ (i : Nat) (h : i < s.size), b0 <= i -> i < n1 -> isDig s[i]
 slash : (h : n1 < s.size) -> s[n1] = 47
 dig2 : ∀ (i : Nat) (h : i < s.size), n1 < i -> isDig s[i]
 num : dsl s b0 n1 = q.num.natAbs
 den1 : n1 = s.size -> q.den = 1
 den : n1 < s.size -> n1 + 1 < s.size /\ dsl s (n1 + 1) s.size = q.den
theorem lies_of (q : Rat) : ∃ b0 n1, Lies q (RS q) b0 n1 := by
 obtain ⟨P, hP⟩ : ∃ P : List UInt8, P = if q.num < 0 then [45] else [] := ⟨_, rfl⟩
 obtain ⟨D, hD⟩ : ∃ D, D = decDigits q.num.natAbs := ⟨_, rfl⟩;obtain ⟨T, hT⟩ : ∃ T : List UInt8, T = if q.den = 1 then [] else 47 :: decDigits q.den := ⟨_, rfl⟩
 have hl : (RS q).data.toList = P ++ (D ++ T) := by
  rw [RS_list, RL, itoa_natAbs, hP, hT, hD];split <;> split <;> simp
 have hDd : ∀ c ∈ D, isDig c := by rw [hD]; exact decDigits_dig _
 have hDn : 0 < D.length := by rw [hD]; exact List.length_pos_iff.2 (decDigits_ne_nil _)
 have hsz : (RS q).size = P.length + (D.length + T.length) := by
  have : (RS q).data.toList.length = (RS q).size := by rw [Array.length_toList]; rfl
  rw [<- this, hl]; simp
 have hg : ∀ (i : Nat) (h : i < (RS q).size), (RS q)[i] = (P ++ (D ++ T))[i]'(by rw [<- hl, Array.length_toList]; exact h) := by
  intro i h;have h2 : i < (RS q).data.toList.length := by rw [Array.length_toList]; exact h
  have e : (RS q)[i] = (RS q).data.toList[i]'h2 := by rfl
  rw [e];simp only [hl]
 have hPl : P.length <= 1 /\ (P.length = 1 ↔ q.num < 0) := by
  rw [hP]; split <;> simp_all
 refine ⟨P.length, P.length + D.length, ⟨hPl.1, hPl.2, by omega, by omega, ?_, ?_, ?_, ?_, ?_, ?_, ?_⟩⟩
 ·intro h
  rw [hg 0 h];by_cases hn : q.num < 0
  ·have hp1 : P = [45] := by rw [hP, if_pos hn]
   subst hp1;simp
  ·have hp1 : P = [] := by rw [hP, if_neg hn]
   subst hp1;simp only [List.nil_append, List.length_nil];rw [List.getElem_append_left hDn];have := hDd _ (List.getElem_mem hDn);unfold isDig at this;constructor
   ·intro h; omega
   ·intro h; omega
 ·intro i h h1 h2
  rw [hg i h, List.getElem_append_right h1, List.getElem_append_left (by omega)];exact hDd _ (List.getElem_mem _)
 ·intro h
  rw [hg _ h, List.getElem_append_right (by omega), List.getElem_append_right (by omega)];have hTn : 0 < T.length := by omega
  have hd : q.den ≠ 1 := by
   intro e; rw [hT, if_pos e] at hTn; simp at hTn
  have e : P.length + D.length - P.length - D.length = 0 := by omega
  simp only [e];simp only [hT, if_neg hd, List.getElem_cons_zero]
 ·intro i h h1
  rw [hg i h, List.getElem_append_right (by omega), List.getElem_append_right (by omega)];have hd : q.den ≠ 1 := by
   intro e;have : T.length = 0 := by rw [hT, if_pos e]; rfl
   omega
  obtain ⟨k, hk⟩ : ∃ k, i - P.length - D.length = k + 1 := ⟨i - P.length - D.length - 1, by omega⟩;simp only [hk];have hTT : T = 47 :: decDigits q.den := by rw [hT, if_neg hd]
  have hkl : k < (decDigits q.den).length := by
   have : T.length = (decDigits q.den).length + 1 := by rw [hTT]; simp
   omega
  have : T[k + 1]'(by rw [hTT]; simp; exact hkl) = (decDigits q.den)[k] := by simp only [hTT, List.getElem_cons_succ]
  rw [this];exact decDigits_dig _ _ (List.getElem_mem _)
 ·unfold dsl
  rw [hl, <- List.append_assoc, List.take_append_of_le_length (by simp), List.take_of_length_le (by simp), List.drop_append_of_le_length (by omega), List.drop_eq_nil_of_le (by omega), List.nil_append, hD, dval_decDigits]
 ·intro h
  have hT0 : T.length = 0 := by omega
  refine Classical.byContradiction fun hd => ?_
  rw [hT, if_neg hd] at hT0;simp at hT0
 ·intro h
  have hTn : 0 < T.length := by omega
  have hd : q.den ≠ 1 := by
   intro e; rw [hT, if_pos e] at hTn; simp at hTn
  have hTT : T = 47 :: decDigits q.den := by rw [hT, if_neg hd]
  have hTl : T.length = (decDigits q.den).length + 1 := by rw [hTT]; simp
  have hdn : 0 < (decDigits q.den).length := List.length_pos_iff.2 (decDigits_ne_nil _);refine ⟨by omega, ?_⟩;unfold dsl;rw [List.take_of_length_le (by rw [Array.length_toList]; exact Nat.le_refl _), hl, hTT, <- List.append_assoc,
   show P.length + D.length + 1 = (P ++ D).length + 1 by simp, List.drop_append]
  have e9 : List.drop (P.length + D.length + 1) (P ++ D) = [] := List.drop_eq_nil_of_le (by simp);simp [e9, dval_decDigits]
theorem dsl_lt9 (s : ByteArray) (a b : Nat) (hd : ∀ (i : Nat) (h : i < s.size), a <= i -> i < b -> isDig s[i]) (hb : b <= a + 9) : dsl s a b < 1000000000 := by
 unfold dsl;refine Nat.lt_of_lt_of_le (dval_lt _ fun c hc => ?_) ?_
 ·obtain ⟨i, hi, rfl⟩ := List.getElem_of_mem hc
  rw [List.length_drop, List.length_take, Array.length_toList] at hi;rw [List.getElem_drop, List.getElem_take];have h2 : a + i < s.size := by have : s.data.size = s.size := rfl; omega
  exact hd (a + i) h2 (by omega) (by omega)
 ·show 10 ^ _ <= 10 ^ 9
  refine Nat.pow_le_pow_right (by decide) ?_;rw [List.length_drop, List.length_take]; omega
def QuickIs (q : Rat) (v : Value) : Prop := ∃ (x y : Int) (one : Bool), v = .tuple #[.int .i64 x, .int .i64 y, .bool one] /\
 (one = true -> x = q.num /\ y = (q.den : Int) /\ (-1000000000 < x /\ x < 1000000000) /\ (0 < y /\ y < 1000000000))
theorem quick_end {q : Rat} {x y : Int} {v : Value} (h : v = .tuple #[.int .i64 x, .int .i64 y, .bool true]) (hx : x = q.num) (hy : y = (q.den : Int)) (h1 : -1000000000 < x /\ x < 1000000000) (h2 : y < 1000000000) : QuickIs q v :=
 ⟨x, y, true, h, fun _ => ⟨hx, hy, h1, by have := q.den_pos; omega, h2⟩⟩
theorem quick_out {q : Rat} {v : Value} (h : v = .tuple #[.int .i64 0, .int .i64 0, .bool false]) : QuickIs q v :=
 ⟨0, 0, false, h, fun h => by cases h⟩
theorem quickQ_any (q : Rat) (hs : (RS q).size <= 1000000000) (w : World) :
 Calls Tryz.prog 69 #[.string (RS q)] w (Same (QuickIs q) w) := by
 obtain ⟨b0, n1, L⟩ := lies_of q;generalize RS q = s at *;have hs0 : 0 < s.size := Nat.lt_of_lt_of_le (Nat.lt_of_le_of_lt (Nat.zero_le _) L.lt) L.le;have hb1 := L.b1;have hlt := L.lt;have hle := L.le;obtain ⟨c0, hc0⟩ : ∃ c0 : Nat, s[0].toNat = c0 := ⟨_, rfl⟩;have hc45 : c0 = 45 ↔ b0 = 1 := by rw [<- hc0]; exact L.sign hs0
 have HL := hid L;obtain ⟨neg, hneg⟩ : ∃ neg, neg = decide (q.num < 0) := ⟨_, rfl⟩;have HNEG := hid hneg;have hnb : neg = decide (b0 = 1) := by rw [hneg]; simp only [L.neg]
 clear L hneg;rcases (by omega : b0 = 0 \/ b0 = 1) with rfl | rfl
 ·have t0 : ((c0 : Int) == 45) = false := by rw [beq_eq_false_iff_ne]; omega
  have hn : neg = false := hnb;subst hn;clear hc45 hnb;go_enter Tryz.func69, Tryz.ntmps69;go_wp2_with fail;go_loop [2, 3, 5] (fun t2 t3 t5 => ∃ (i : Nat) (nz : Int), t3 = .int .i64 0 /\ 0 <= i /\ i <= n1 /\ i <= 0 + 9 /\ t5 = .int .i64 i /\ t2 = .int .i64 nz /\ Hid (nz = (dsl s 0 i : Nat)) /\ 0 <= nz /\ nz < 1000000000) (fun _ _ t5 => s.size - (RowKit.intOf t5).toNat)
  case atStart => exact ⟨0, 0, rfl, Nat.le_refl _, by omega, by omega, rfl, rfl, by unfold Hid; rw [dsl_self]; rfl, by omega, by omega⟩
  case round =>
   obtain ⟨i, nz, rfl, hi0, hi1, hi2, rfl, rfl, HN, hn0, hn1⟩ := hrel;rcases Nat.lt_or_ge i n1 with hin | hin
   ·have his : i < s.size := by omega
    have hd : isDig s[i] := HL.out.dig i his hi0 hin;unfold isDig at hd;have hst : Hid (dsl s 0 (i + 1) = 10 * dsl s 0 i + (s[i].toNat - 48)) := dsl_step s 0 i his hi0;obtain ⟨ck, hck⟩ : ∃ ck : Nat, s[i].toNat = ck := ⟨_, rfl⟩;rw [hck] at hd;have HCK := hid hck;have t1 : ((ck : Int) != 47) = true := by rw [bne_iff_ne]; omega
    have t1' : ((ck : Int) == 47) = false := by rw [beq_eq_false_iff_ne]; omega
    by_cases h9 : i = 0 + 9
    ·have t2 : ((i : Int) == 9) = true := by rw [beq_iff_eq]; omega
     clear hst h9;go_wp2_with fail
     go_ret3
     exact ⟨_, rfl, quick_out rfl, rfl⟩
    ·have t2 : ((i : Int) == 9) = false := by rw [beq_eq_false_iff_ne]; omega
     have h9' : i < 0 + 9 := by omega
     have HX : Hid (10 * nz + ((ck : Int) - 48) = ((dsl s 0 (i + 1) : Nat) : Int)) := by
      unfold Hid; rw [hst.out, HN.out, HCK.out]; omega
     have hx : Hid (0 <= 10 * nz + ((ck : Int) - 48) /\ 10 * nz + ((ck : Int) - 48) < 1000000000) := by
      have := dsl_lt9 s 0 (i + 1) (fun k hk h1 h2 => HL.out.dig k hk h1 (by omega)) (by omega);unfold Hid; rw [HX.out]; omega
     clear hst h9;go_wp2_with fail
     go_round
     case rel => exact ⟨i + 1, _, rfl, by omega, by omega, by omega, by go_num, rfl, HX, hx.out.1, hx.out.2⟩
     case measure => simp [RowKit.intOf]; omega
   ·have hie : i = n1 := by omega
    have HNV : Hid (nz = (q.num.natAbs : Nat)) := by rw [hie] at HN; have := HL.out.num; unfold Hid; rw [HN.out, this]
    subst hie;have hv : Hid (nz = q.num) := by
     unfold Hid;have := of_decide_eq_false HNEG.out.symm;rw [HNV.out]; omega
    have hvb : -1000000000 < nz /\ nz < 1000000000 := by omega
    clear HN;rcases Nat.lt_or_ge i s.size with hls | hge
    ·have hsl := HL.out.slash hls
     have hden := HL.out.den hls;obtain ⟨ck, hck⟩ : ∃ ck : Nat, s[i].toNat = ck := ⟨_, rfl⟩;have hk47 : ck = 47 := by rw [<- hck, hsl]; rfl
     have t1 : ((ck : Int) != 47) = false := by rw [bne_eq_false_iff_eq]; omega
     have t1' : ((ck : Int) == 47) = true := by rw [beq_iff_eq]; omega
     have t3 : ((i : Int) == (s.size : Int)) = false := by rw [beq_eq_false_iff_ne]; omega
     have hi2 : i + 1 < s.size := hden.1;have HDEN := hid hden.2;clear hk47 hsl hden;go_wp2_with fail;go_loop [2, 3, 5] (fun t2 t3 t5 => ∃ (k : Nat) (dz : Int), t2 = .int .i64 (nz) /\ i + 1 <= k /\ k <= s.size /\ k <= i + 1 + 9 /\ t5 = .int .i64 k /\ t3 = .int .i64 dz /\ Hid (dz = (dsl s (i + 1) k : Nat)) /\ 0 <= dz /\ dz < 1000000000) (fun _ _ t5 => s.size - (RowKit.intOf t5).toNat)
     case atStart => exact ⟨i + 1, 0, rfl, Nat.le_refl _, by omega, by omega, by go_num, rfl, by unfold Hid; rw [dsl_self]; rfl, by omega, by omega⟩
     case round =>
      obtain ⟨k, dz, rfl, hk0, hk1, hk2, rfl, rfl, HN, hn0, hn1⟩ := hrel;rcases Nat.lt_or_ge k s.size with hks | hks
      ·have hd : isDig s[k] := HL.out.dig2 k hks (by omega)
       unfold isDig at hd;have hst : Hid (dsl s (i + 1) (k + 1) = 10 * dsl s (i + 1) k + (s[k].toNat - 48)) := dsl_step s (i + 1) k hks hk0;obtain ⟨cd, hcd⟩ : ∃ cd : Nat, s[k].toNat = cd := ⟨_, rfl⟩;rw [hcd] at hd;have HCK := hid hcd;by_cases h9 : k = i + 1 + 9
       ·have t2 : ((k : Int) - ((i : Int) + 1) == 9) = true := by rw [beq_iff_eq]; omega
        clear hst h9;go_wp2_with fail
        go_ret3
        exact ⟨_, rfl, quick_out rfl, rfl⟩
       ·have t2 : ((k : Int) - ((i : Int) + 1) == 9) = false := by rw [beq_eq_false_iff_ne]; omega
        have h9' : k < i + 1 + 9 := by omega
        have HX : Hid (10 * dz + ((cd : Int) - 48) = ((dsl s (i + 1) (k + 1) : Nat) : Int)) := by
         unfold Hid; rw [hst.out, HN.out, HCK.out]; omega
        have hx : Hid (0 <= 10 * dz + ((cd : Int) - 48) /\ 10 * dz + ((cd : Int) - 48) < 1000000000) := by
         have := dsl_lt9 s (i + 1) (k + 1) (fun j hj h1 h2 => HL.out.dig2 j hj (by omega)) (by omega);unfold Hid; rw [HX.out]; omega
        clear hst h9;go_wp2_with fail
        go_round
        case rel => exact ⟨k + 1, _, rfl, by omega, by omega, by omega, by go_num, rfl, HX, hx.out.1, hx.out.2⟩
        case measure => simp [RowKit.intOf]; omega
      ·have hde : Hid (dz = (q.den : Int)) := by
              have : k = s.size := by omega
              unfold Hid; rw [HN.out, this, HDEN.out]
       go_wp2_with fail
       go_ret3
       exact ⟨_, rfl, quick_end rfl hv.out hde.out hvb hn1, rfl⟩
    ·have hden : Hid ((1 : Int) = (q.den : Int)) := by
      have := HL.out.den1 (by omega);unfold Hid; rw [this]; rfl
     have t3 : ((i : Int) == (s.size : Int)) = true := by rw [beq_iff_eq]; omega
     go_wp2_with fail
     go_ret3
     exact ⟨_, rfl, quick_end rfl hv.out hden.out hvb (by omega), rfl⟩
 ·have t0 : ((c0 : Int) == 45) = true := by rw [beq_iff_eq]; omega
  have hn : neg = true := hnb;subst hn;clear hc45 hnb;go_enter Tryz.func69, Tryz.ntmps69;go_wp2_with fail;go_loop [2, 3, 5] (fun t2 t3 t5 => ∃ (i : Nat) (nz : Int), t3 = .int .i64 0 /\ 1 <= i /\ i <= n1 /\ i <= 1 + 9 /\ t5 = .int .i64 i /\ t2 = .int .i64 nz /\ Hid (nz = (dsl s 1 i : Nat)) /\ 0 <= nz /\ nz < 1000000000) (fun _ _ t5 => s.size - (RowKit.intOf t5).toNat)
  case atStart => exact ⟨1, 0, rfl, Nat.le_refl _, by omega, by omega, rfl, rfl, by unfold Hid; rw [dsl_self]; rfl, by omega, by omega⟩
  case round =>
   obtain ⟨i, nz, rfl, hi0, hi1, hi2, rfl, rfl, HN, hn0, hn1⟩ := hrel;rcases Nat.lt_or_ge i n1 with hin | hin
   ·have his : i < s.size := by omega
    have hd : isDig s[i] := HL.out.dig i his hi0 hin;unfold isDig at hd;have hst : Hid (dsl s 1 (i + 1) = 10 * dsl s 1 i + (s[i].toNat - 48)) := dsl_step s 1 i his hi0;obtain ⟨ck, hck⟩ : ∃ ck : Nat, s[i].toNat = ck := ⟨_, rfl⟩;rw [hck] at hd;have HCK := hid hck;have t1 : ((ck : Int) != 47) = true := by rw [bne_iff_ne]; omega
    have t1' : ((ck : Int) == 47) = false := by rw [beq_eq_false_iff_ne]; omega
    by_cases h9 : i = 1 + 9
    ·have t2 : ((i : Int) - 1 == 9) = true := by rw [beq_iff_eq]; omega
     clear hst h9;go_wp2_with fail
     go_ret3
     exact ⟨_, rfl, quick_out rfl, rfl⟩
    ·have t2 : ((i : Int) - 1 == 9) = false := by rw [beq_eq_false_iff_ne]; omega
     have h9' : i < 1 + 9 := by omega
     have HX : Hid (10 * nz + ((ck : Int) - 48) = ((dsl s 1 (i + 1) : Nat) : Int)) := by
      unfold Hid; rw [hst.out, HN.out, HCK.out]; omega
     have hx : Hid (0 <= 10 * nz + ((ck : Int) - 48) /\ 10 * nz + ((ck : Int) - 48) < 1000000000) := by
      have := dsl_lt9 s 1 (i + 1) (fun k hk h1 h2 => HL.out.dig k hk h1 (by omega)) (by omega);unfold Hid; rw [HX.out]; omega
     clear hst h9;go_wp2_with fail
     go_round
     case rel => exact ⟨i + 1, _, rfl, by omega, by omega, by omega, by go_num, rfl, HX, hx.out.1, hx.out.2⟩
     case measure => simp [RowKit.intOf]; omega
   ·have hie : i = n1 := by omega
    have HNV : Hid (nz = (q.num.natAbs : Nat)) := by rw [hie] at HN; have := HL.out.num; unfold Hid; rw [HN.out, this]
    subst hie;have hv : Hid (-nz = q.num) := by
     unfold Hid;have := of_decide_eq_true HNEG.out.symm;rw [HNV.out]; omega
    have hvb : -1000000000 < -nz /\ -nz < 1000000000 := by omega
    clear HN;rcases Nat.lt_or_ge i s.size with hls | hge
    ·have hsl := HL.out.slash hls
     have hden := HL.out.den hls;obtain ⟨ck, hck⟩ : ∃ ck : Nat, s[i].toNat = ck := ⟨_, rfl⟩;have hk47 : ck = 47 := by rw [<- hck, hsl]; rfl
     have t1 : ((ck : Int) != 47) = false := by rw [bne_eq_false_iff_eq]; omega
     have t1' : ((ck : Int) == 47) = true := by rw [beq_iff_eq]; omega
     have t3 : ((i : Int) == (s.size : Int)) = false := by rw [beq_eq_false_iff_ne]; omega
     have hi2 : i + 1 < s.size := hden.1;have HDEN := hid hden.2;clear hk47 hsl hden;go_wp2_with fail;go_loop [2, 3, 5] (fun t2 t3 t5 => ∃ (k : Nat) (dz : Int), t2 = .int .i64 (-nz) /\ i + 1 <= k /\ k <= s.size /\ k <= i + 1 + 9 /\ t5 = .int .i64 k /\ t3 = .int .i64 dz /\ Hid (dz = (dsl s (i + 1) k : Nat)) /\ 0 <= dz /\ dz < 1000000000) (fun _ _ t5 => s.size - (RowKit.intOf t5).toNat)
     case atStart => exact ⟨i + 1, 0, rfl, Nat.le_refl _, by omega, by omega, by go_num, rfl, by unfold Hid; rw [dsl_self]; rfl, by omega, by omega⟩
     case round =>
      obtain ⟨k, dz, rfl, hk0, hk1, hk2, rfl, rfl, HN, hn0, hn1⟩ := hrel;rcases Nat.lt_or_ge k s.size with hks | hks
      ·have hd : isDig s[k] := HL.out.dig2 k hks (by omega)
       unfold isDig at hd;have hst : Hid (dsl s (i + 1) (k + 1) = 10 * dsl s (i + 1) k + (s[k].toNat - 48)) := dsl_step s (i + 1) k hks hk0;obtain ⟨cd, hcd⟩ : ∃ cd : Nat, s[k].toNat = cd := ⟨_, rfl⟩;rw [hcd] at hd;have HCK := hid hcd;by_cases h9 : k = i + 1 + 9
       ·have t2 : ((k : Int) - ((i : Int) + 1) == 9) = true := by rw [beq_iff_eq]; omega
        clear hst h9;go_wp2_with fail
        go_ret3
        exact ⟨_, rfl, quick_out rfl, rfl⟩
       ·have t2 : ((k : Int) - ((i : Int) + 1) == 9) = false := by rw [beq_eq_false_iff_ne]; omega
        have h9' : k < i + 1 + 9 := by omega
        have HX : Hid (10 * dz + ((cd : Int) - 48) = ((dsl s (i + 1) (k + 1) : Nat) : Int)) := by
         unfold Hid; rw [hst.out, HN.out, HCK.out]; omega
        have hx : Hid (0 <= 10 * dz + ((cd : Int) - 48) /\ 10 * dz + ((cd : Int) - 48) < 1000000000) := by
         have := dsl_lt9 s (i + 1) (k + 1) (fun j hj h1 h2 => HL.out.dig2 j hj (by omega)) (by omega);unfold Hid; rw [HX.out]; omega
        clear hst h9;go_wp2_with fail
        go_round
        case rel => exact ⟨k + 1, _, rfl, by omega, by omega, by omega, by go_num, rfl, HX, hx.out.1, hx.out.2⟩
        case measure => simp [RowKit.intOf]; omega
      ·have hde : Hid (dz = (q.den : Int)) := by
              have : k = s.size := by omega
              unfold Hid; rw [HN.out, this, HDEN.out]
       go_wp2_with fail
       go_ret3
       exact ⟨_, rfl, quick_end rfl hv.out hde.out hvb hn1, rfl⟩
    ·have hden : Hid ((1 : Int) = (q.den : Int)) := by
      have := HL.out.den1 (by omega);unfold Hid; rw [this]; rfl
     have t3 : ((i : Int) == (s.size : Int)) = true := by rw [beq_iff_eq]; omega
     go_wp2_with fail
     go_ret3
     exact ⟨_, rfl, quick_end rfl hv.out hden.out hvb (by omega), rfl⟩
theorem RS_mkRat {n : Int} {d g : Nat} (hd : 0 < d) (hg : g = Nat.gcd n.natAbs d) {x y : Int} (hx : x = n.tdiv (g : Int)) (hy : y = ((d / g : Nat) : Int)) :
 (y = 1 -> IS x = RS (mkRat n d)) /\ (y ≠ 1 -> (IS x ++ ⟨#[47]⟩) ++ IS y = RS (mkRat n d)) := by
 have h := RL_mkRat n d (by omega);rw [<- hg] at h;have hdv : n / (g : Int) = x := by
  rw [hx];have : (g : Int) ∣ n := by
   rw [hg]; exact Int.ofNat_dvd_left.2 (Nat.gcd_dvd_left _ _)
  exact (Int.tdiv_eq_ediv_of_dvd this).symm
 rw [hdv] at h;refine ⟨fun h1 => ?_, fun h1 => ?_⟩
 ·rw [if_pos (by omega)] at h
  exact ba_ext (by rw [RS_list, h, IS_list])
 ·rw [if_neg (by omega)] at h
  apply ba_ext;rw [RS_list, h, ba_append, ba_append, IS_list, IS_list, hy, itoa_nat];simp
theorem IS_size20 {x : Int} (h : -10000000000000000000 < x /\ x < 10000000000000000000) : (IS x).size <= 20 := by
 rw [IS_size]
 exact itoa_len_le (k := 19) (by decide) (by have : (10 : Nat) ^ 19 = 10000000000000000000 := by decide
                                             omega)
theorem smallQ_any (n : Int) (d : Nat) (dz : Int) (hdz : dz = (d : Int)) (hd : 0 < d) (hn : -2000000000000000000 <= n /\ n <= 2000000000000000000) (hd2 : dz <= 1000000000000000000) (w : World) (hg : Good w) :
 Calls Tryz.prog 70 #[.int .i64 n, .int .i64 dz] w (Ret (fun v _ => v = .string (RS (mkRat n d))) w) := by
 have hd0 : 0 < dz := by omega
 have HDZ := hid hdz;clear hdz;go_enter Tryz.func70, Tryz.ntmps70;obtain ⟨G, hG⟩ : ∃ G, G = Nat.gcd n.natAbs d := ⟨_, rfl⟩;have hGp : 0 < G := by rw [hG]; exact Nat.gcd_pos_of_pos_right _ hd
 have hGd : G <= d := by rw [hG]; exact Nat.le_of_dvd hd (Nat.gcd_dvd_right _ _)
 have HG := hid hG;clear hG;go_wp2_with fail;go_loopw [5, 6] (fun t5 t6 wr => ∃ m k : Int, t5 = .int .i64 m /\ t6 = .int .i64 k /\ Hid (Nat.gcd m.natAbs k.natAbs = G) /\ (-2000000000000000000 <= m /\ m <= 2000000000000000000) /\ (-2000000000000000000 <= k /\ k <= 2000000000000000000) /\ ∃ j, wr = w.drewN j) (fun _ t6 _ => (RowKit.intOf t6).natAbs)
 case atStart => exact ⟨n, dz, rfl, rfl, by unfold Hid; rw [HG.out, HDZ.out]; rfl, hn, by omega, 0, rfl⟩
 case round =>
  obtain ⟨m, k, rfl, rfl, HM, hm, hk, j, rfl⟩ := hrel;by_cases hz : k = 0
  ·subst hz
   have hab : m.natAbs = G := by have := HM.out; rwa [Int.natAbs_zero, Nat.gcd_zero_right] at this
   have hgj := hg.drewN j;obtain ⟨x, hx⟩ : ∃ x, x = n.tdiv (G : Int) := ⟨_, rfl⟩;obtain ⟨y, hy⟩ : ∃ y : Int, y = dz / (G : Int) := ⟨_, rfl⟩;have hyn : y = ((d / G : Nat) : Int) := by rw [hy, HDZ.out]; rfl
   have HRS := hid (RS_mkRat hd HG.out hx hyn);have hxb := tdiv_lim (y := (G : Int)) (x := n) (M := 2000000000000000001) (by omega);rw [<- hx] at hxb;have hyb : 0 <= y /\ y <= 1000000000000000000 := by
    rw [hyn];have h1 : d / G <= d := Nat.div_le_self _ _;have := HDZ.out;generalize d / G = z at *;omega
   obtain ⟨gz, hgz⟩ : ∃ gz : Int, gz = (G : Int) := ⟨_, rfl⟩;have hgz0 : 1 <= gz := by omega
   have hgz1 : ¬ gz = 0 := by omega
   have hgzb : (gz == 0) = false := by rw [beq_eq_false_iff_ne]; omega
   rw [<- hgz] at hx hy;have hxw := hxb;rw [hx] at hxw;have HX := hid hx;have HY := hid hy;have hsx := IS_size20 (x := x) (by omega);have hsy := IS_size20 (x := y) (by omega);rcases Int.lt_or_le m 0 with hneg | hpos
   case' inl =>
    have hmg : Hid (-m = gz) := by unfold Hid; omega
    clear hab hGp hGd hgz hx hy hyn;go_upto_region 6 with fail;rw [hmg.out]
   case' inr =>
    have hmg : m = gz := by omega
    subst hmg;clear hab hGp hGd hgz hx hy hyn;go_upto_region 6 with fail
   all_goals
    go_quiet (fail);rw [<- HX.out, <- HY.out];have hgq := hgj.drewN nq;have hbq : Below w.heap.size w ((w.drewN j).drewN nq) := (below_drewN w j).trans (below_drewN (w.drewN j) nq);generalize (w.drewN j).drewN nq = wq at *;by_cases hy1 : y = 1
    ·have HF := hid (HRS.out.1 hy1)
     have ty : (y == 1) = true := by rw [beq_iff_eq]; exact hy1
     clear hy1;go_wp2_with fail;refine (itoa_any x (by omega) (by omega) _ hgq).mono ?_;rintro e w2 ⟨_, rfl, rfl, hb2⟩;rw [HF.out];go_wp2_with fail;go_ret;exact ⟨_, rfl, rfl, hbq.trans (hb2.mono hbq.size)⟩
    ·have HF := hid (HRS.out.2 hy1)
     have ty : (y == 1) = false := by rw [beq_eq_false_iff_ne]; exact hy1
     clear hy1;go_wp2_with fail;refine (itoa_any x (by omega) (by omega) _ hgq).mono ?_;rintro e w2 ⟨_, rfl, rfl, hb2⟩;go_wp2_with fail;refine (itoa_any y (by omega) (by omega) _ (hgq.below hb2)).mono ?_;rintro e w3 ⟨_, rfl, rfl, hb3⟩;go_wp2_with fail;go_ret;exact ⟨_, rfl, congrArg Value.string HF.out, hbq.trans ((hb2.trans (hb3.mono hb2.size)).mono hbq.size)⟩
  ·have hz1 : (k != 0) = true := by rw [bne_iff_ne]; exact hz
   have hzb : (k == 0) = false := by rw [beq_eq_false_iff_ne]; exact hz
   have hlt : (m.tmod k).natAbs < k.natAbs := by rw [tmod_natAbs]; exact Nat.mod_lt _ (by omega)
   have HN : Hid (Nat.gcd k.natAbs (m.tmod k).natAbs = G) := by
    unfold Hid; rw [tmod_natAbs, gcd_step]; exact HM.out
   have hn2 : -2000000000000000000 <= m.tmod k /\ m.tmod k <= 2000000000000000000 := by omega
   go_wp2_with fail;go_quiet (fail);go_wp2_with fail;go_roundw
   case rel => exact ⟨k, m.tmod k, rfl, rfl, HN, hk, hn2, dr_step ⟨j, rfl⟩ _⟩
   case measure => exact hlt
theorem IS_size_mono {x n : Int} {k : Nat} (h : x.natAbs <= n.natAbs) (hn : (IS n).size <= k) (hk : 0 < k) : (IS x).size <= k + 1 := by
 have h1 := abs_size hn;have h2 := nat_size_mono h h1 hk;rw [IS_size, itoa_nat, decDigits_length] at h2;rw [IS_size, itoa_len];split <;> omega
theorem gcd_fact {n : Int} {d G : Nat} (hd : 0 < d) (hG : G = Nat.gcd n.natAbs d) :
 0 < G /\ G <= d /\ n / (G : Int) = n.tdiv (G : Int) /\ (n / (G : Int)).natAbs <= n.natAbs /\ (d : Int) / (G : Int) = ((d / G : Nat) : Int) := by
 have h1 : 0 < G := by rw [hG]; exact Nat.gcd_pos_of_pos_right _ hd
 have h2 : G <= d := by rw [hG]; exact Nat.le_of_dvd hd (Nat.gcd_dvd_right _ _)
 have hdv : (G : Int) ∣ n := by rw [hG]; exact Int.ofNat_dvd_left.2 (Nat.gcd_dvd_left _ _)
 have e := Int.tdiv_eq_ediv_of_dvd hdv;exact ⟨h1, h2, e.symm, by rw [<- e, Int.natAbs_tdiv]; exact Nat.div_le_self _ _, rfl⟩
theorem Sz.num_size {k : Nat} {q : Rat} (h : Sz k q) (hk : 0 < k) : (IS q.num).size <= k + 1 := by
 rw [IS_size]; exact itoa_len_le hk h.1
theorem Sz.den_size {k : Nat} {q : Rat} (h : Sz k q) (hk : 0 < k) : (IS (q.den : Int)).size <= k + 1 := by
 rw [IS_size]; exact itoa_len_le hk h.2
theorem Sz.size {k : Nat} {q : Rat} (h : Sz k q) (hk : 0 < k) : (RS q).size <= 2 * k + 2 := by
 rw [RS_size]; exact RL_len_le hk h
theorem mul_size {a b : Int} {j k : Nat} (hj : 0 < j) (hk : 0 < k) (ha : (IS a).size <= j) (hb : (IS b).size <= k) : (IS (a * b)).size <= j + k + 1 := by
 rw [IS_size] at *;have h1 := natAbs_lt_of_len hj ha;have h2 := natAbs_lt_of_len hk hb;refine itoa_len_le (k := j + k) (by omega) ?_;rw [Int.natAbs_mul]; exact pow_add_lt h1 h2
theorem add_size {a b : Int} {k : Nat} (hk : 0 < k) (ha : (IS a).size <= k) (hb : (IS b).size <= k) : (IS (a + b)).size <= k + 2 := by
 rw [IS_size] at *;have h1 := natAbs_lt_of_len hk ha;have h2 := natAbs_lt_of_len hk hb;refine itoa_len_le (k := k + 1) (by omega) ?_;rw [Nat.pow_succ];omega
theorem prod_lim {x y : Int} (hx : -1000000000 < x /\ x < 1000000000) (hy : -1000000000 < y /\ y < 1000000000) : -1000000000000000000 < x * y /\ x * y < 1000000000000000000 := by
 have h : (x * y).natAbs < 1000000000 * 1000000000 := by
  rw [Int.natAbs_mul];exact Nat.mul_lt_mul'' (by omega) (by omega)
 omega
theorem RS_eq48 (q : Rat) : ((RS q).toList == [48]) = decide (q = 0) := by rw [ba_toList, RS_list, RL_eq48]
theorem RS_pos (q : Rat) : 0 < (RS q).size := by rw [RS_size]; exact RL_len_pos q
theorem RS_head (q : Rat) (h : 0 < (RS q).size) : (RS q)[0].toNat = 45 ↔ q.num < 0 := by
 obtain ⟨b0, n1, L⟩ := lies_of q;rw [L.sign h, L.neg]
def cmpQ (a b : Rat) : Int := if a < b then -1 else if b < a then 1 else 0
theorem inv_mkRat (q : Rat) (_h : q.num ≠ 0) : ∃ n : Int, ((q.num = (q.num.natAbs : Int) /\ (q.den : Int) = n) \/ (q.num = -(q.num.natAbs : Int) /\ (q.den : Int) = -n)) /\ mkRat n q.num.natAbs = q⁻¹ := by
 rw [Rat.inv_def];rcases Int.lt_or_le q.num 0 with h1 | h1
 ·refine ⟨-(q.den : Int), .inr ⟨by omega, by omega⟩, ?_⟩
  obtain ⟨m, hm⟩ : ∃ m : Nat, q.num = -(m : Int) := ⟨q.num.natAbs, by omega⟩;rw [hm, Rat.divInt_neg'];simp [Rat.divInt_ofNat, Int.natAbs_neg]
 ·refine ⟨(q.den : Int), .inl ⟨by omega, rfl⟩, ?_⟩
  obtain ⟨m, hm⟩ : ∃ m : Nat, q.num = (m : Int) := ⟨q.num.natAbs, by omega⟩;rw [hm];simp [Rat.divInt_ofNat]
theorem joinQ_any (x y : Int) (S : ByteArray) (hS : (y = 1 -> IS x = S) /\ (y ≠ 1 -> (IS x ++ ⟨#[47]⟩) ++ IS y = S)) (hsx : (IS x).size <= 100000) (hsy : (IS y).size <= 100000) (w : World) :
 Calls Tryz.prog 115 #[.string (IS x), .string (IS y)] w (Same (fun v => v = .string S) w) := by
 have hy9 := IS_eq49 y;by_cases hy1 : y = 1
 ·have HF := hid (hS.1 hy1)
  rw [decide_eq_true hy1] at hy9;clear hy1 hS;go_enter Tryz.func115, Tryz.ntmps115;go_wp2_with fail;go_ret;exact ⟨_, rfl, congrArg Value.string HF.out, rfl⟩
 ·have HF := hid (hS.2 hy1)
  rw [decide_eq_false hy1] at hy9;clear hy1 hS;go_enter Tryz.func115, Tryz.ntmps115;go_wp2_with fail;go_ret;exact ⟨_, rfl, congrArg Value.string HF.out, rfl⟩
theorem lowestI_any (a b n : Int) (d : Nat) (dz : Int) (hdz : dz = (d : Int)) (hd : 0 < d) (hsa : (IS a).size <= 90000) (hsb : (IS b).size <= 90000)
 (hab : (b = dz /\ a = n) \/ (b = -dz /\ a = -n)) (w : World) (hg : Good w) :
 Calls Tryz.prog 72 #[.string (IS a), .string (IS b)] w (Ret (fun v _ => v = .string (RS (mkRat n d))) w) := by
 obtain ⟨G, hG⟩ : ∃ G, G = Nat.gcd n.natAbs d := ⟨_, rfl⟩;obtain ⟨hGp, hGd, hG1, hG2, hG3⟩ := gcd_fact hd hG;have hGC : Hid (((Int.gcd n dz : Nat) : Int) = (G : Int)) := by unfold Hid; rw [hG, hdz]; rfl
 obtain ⟨x, hx⟩ : ∃ x, x = n / (G : Int) := ⟨_, rfl⟩;obtain ⟨y, hy⟩ : ∃ y : Int, y = dz / (G : Int) := ⟨_, rfl⟩;have hyn : y = ((d / G : Nat) : Int) := by rw [hy, hdz]; rfl
 have HRS := hid (RS_mkRat hd hG (x := x) (by rw [hx, hG1]) hyn);have hsn : (IS n).size <= 90001 := by
  rcases hab with ⟨_, h⟩ | ⟨_, h⟩
  ·rw [<- h]; omega
  ·rw [show n = -a by omega]; exact neg_size hsa
 have hsd : (IS dz).size <= 90001 := by
  rcases hab with ⟨h, _⟩ | ⟨h, _⟩
  ·rw [<- h]; omega
  ·rw [show dz = -b by omega]; exact neg_size hsb
 have hsG : (IS (G : Int)).size <= 90001 := nat_size_mono hGd (by rw [<- hdz]; exact hsd) (by omega);have hsx : (IS x).size <= 90002 := IS_size_mono (by rw [hx]; exact hG2) hsn (by omega);have hsy : (IS y).size <= 90002 := IS_size_mono (n := dz) (by rw [hyn, hdz]; exact Nat.div_le_self d G) hsd (by omega);have hd0 : 0 < dz := by omega
 obtain ⟨gz, hgz⟩ : ∃ gz : Int, gz = (G : Int) := ⟨_, rfl⟩;rw [<- hgz] at hGC hx hy hsG;have hG0 : Hid (gz ≠ 0) := by unfold Hid; omega
 have hg9 := IS_ne49 gz;have hg8 := IS_eq49 gz;have H1 : Hid (gz = 1 -> x = n /\ y = dz) := fun e => by rw [hx, hy, e, Int.ediv_one, Int.ediv_one]; exact ⟨rfl, rfl⟩
 have HX := hid hx;have HY := hid hy;clear hG hG1 hG2 hG3 hGp hGd hyn hdz hx hy hgz;rcases hab with ⟨e1, e2⟩ | ⟨e1, e2⟩
 case' inl =>
  have e1 := e1.symm;have e2 := e2.symm;subst e1 e2;have hbn : ¬ dz < 0 := by omega
  go_enter Tryz.func72, Tryz.ntmps72;go_wp2_with fail;refine (sign_any dz _).mono ?_;rintro e w1 ⟨_, rfl, rfl, rfl⟩;go_upto_region 3 with fail
 case' inr =>
  have hbn : b < 0 := by omega
  have E1 : Hid (-b = dz) := by unfold Hid; omega
  have E2 : Hid (-a = n) := by unfold Hid; omega
  clear e1 e2;go_enter Tryz.func72, Tryz.ntmps72;go_wp2_with fail;refine (sign_any b _).mono ?_;rintro e w0 ⟨_, rfl, rfl, rfl⟩;go_wp2_with fail;refine (neg_any a (by omega) _).mono ?_;rintro e w02 ⟨_, rfl, rfl, rfl⟩;rw [E2.out];go_wp2_with fail;refine (neg_any b (by omega) _).mono ?_;rintro e w1 ⟨_, rfl, rfl, rfl⟩;rw [E1.out];go_upto_region 3 with fail
 all_goals
  go_wp2_with fail;refine (gcd_any n dz (by omega) (by omega) _ hg).mono ?_;rintro e w2 ⟨_, rfl, rfl, hb3⟩;rw [hGC.out];have hgb2 := hg.below hb3;by_cases hg1 : gz = 1
  ·obtain ⟨ex, ey⟩ := H1.out hg1
   rw [decide_eq_true hg1] at hg9 hg8;rw [Bool.not_true] at hg9;have HJ := hid (joinQ_any n dz (RS (mkRat n d)) (by have h := HRS.out; rw [ex, ey] at h; exact h) (by omega) (by omega) w2);clear hg1 ex ey;go_wp2_with fail;refine HJ.out.mono ?_;rintro e w3 ⟨_, rfl, rfl, rfl⟩;go_wp2_with fail;go_ret;exact ⟨_, rfl, rfl, hb3⟩
  ·rw [decide_eq_false hg1] at hg9 hg8
   rw [Bool.not_false] at hg9;clear hg1;go_wp2_with fail;refine (divmod_any n gz (by omega) (by omega) hG0.out _ hgb2).mono ?_;rintro e w3 ⟨_, rfl, rfl, hb4⟩;rw [<- HX.out];have hgb3 := hgb2.below hb4;have hb5 := hb3.trans (hb4.mono hb3.size);clear hb3 hb4;go_wp2_with fail;refine (divmod_any dz gz (by omega) (by omega) hG0.out _ hgb3).mono ?_;rintro e w4 ⟨_, rfl, rfl, hb6⟩;rw [<- HY.out];have hb7 := hb5.trans (hb6.mono hb5.size);clear hb5 hb6;go_wp2_with fail;refine (joinQ_any x y (RS (mkRat n d)) HRS.out (by omega) (by omega) w4).mono ?_;rintro e w5 ⟨_, rfl, rfl, rfl⟩;go_wp2_with fail;go_ret;exact ⟨_, rfl, rfl, hb7⟩
theorem RS_eq49 (q : Rat) : ((RS q).toList == [49]) = decide (q = 1) := by rw [ba_toList, RS_list, RL_eq49]
theorem ratMul_any (p q : Rat) (k : Nat) (hk : 0 < k) (hk2 : k <= 20000) (hp : Sz k p) (hq : Sz k q) (w : World) (hg : Good w) :
 Calls Tryz.prog 42 #[.string (RS p), .string (RS q)] w (Ret (fun v _ => v = .string (RS (p * q))) w) := by
 have hsp := hp.size hk;have hsq := hq.size hk;have hpn := hp.num_size hk;have hqn := hq.num_size hk;have hpd := hp.den_size hk;have hqd := hq.den_size hk;have HM : Hid (mkRat (p.num * q.num) (p.den * q.den) = p * q) := by unfold Hid; rw [Rat.mul_def']
 have hd : 0 < p.den * q.den := Nat.mul_pos p.den_pos q.den_pos;have HD : Hid ((p.den : Int) * (q.den : Int) = ((p.den * q.den : Nat) : Int)) := by unfold Hid; omega
 have HMN := hid (mul_size (j := k + 1) (k := k + 1) (by omega) (by omega) hpn hqn);have HMD := hid (mul_size (j := k + 1) (k := k + 1) (by omega) (by omega) hpd hqd);clear hp hq;have p8 := RS_eq48 p;have q8 := RS_eq48 q;have p9 := RS_eq49 p;have q9 := RS_eq49 q;by_cases hp0 : p = 0
 ·rw [decide_eq_true hp0] at p8
  have HF : Hid ((⟨#[48]⟩ : ByteArray) = RS (p * q)) := by unfold Hid; rw [hp0, Rat.zero_mul, RS_zero]
  clear hp0 p9 q9 q8;go_enter Tryz.func42, Tryz.ntmps42;go_wp2_with fail;go_ret;exact ⟨_, rfl, congrArg Value.string HF.out, Below.refl _ _⟩
 rw [decide_eq_false hp0] at p8;clear hp0;by_cases hq0 : q = 0
 ·rw [decide_eq_true hq0] at q8
  have HF : Hid ((⟨#[48]⟩ : ByteArray) = RS (p * q)) := by unfold Hid; rw [hq0, Rat.mul_zero, RS_zero]
  clear hq0 p9 q9;go_enter Tryz.func42, Tryz.ntmps42;go_wp2_with fail;go_ret;exact ⟨_, rfl, congrArg Value.string HF.out, Below.refl _ _⟩
 rw [decide_eq_false hq0] at q8;clear hq0;by_cases hp1 : p = 1
 ·rw [decide_eq_true hp1] at p9
  have HF : Hid (RS q = RS (p * q)) := by unfold Hid; rw [hp1, Rat.one_mul]
  clear hp1 q9;go_enter Tryz.func42, Tryz.ntmps42;go_wp2_with fail;go_ret;exact ⟨_, rfl, congrArg Value.string HF.out, Below.refl _ _⟩
 rw [decide_eq_false hp1] at p9;clear hp1;by_cases hq1 : q = 1
 ·rw [decide_eq_true hq1] at q9
  have HF : Hid (RS p = RS (p * q)) := by unfold Hid; rw [hq1, Rat.mul_one]
  clear hq1;go_enter Tryz.func42, Tryz.ntmps42;go_wp2_with fail;go_ret;exact ⟨_, rfl, congrArg Value.string HF.out, Below.refl _ _⟩
 rw [decide_eq_false hq1] at q9;clear hq1;go_enter Tryz.func42, Tryz.ntmps42;go_wp2_with fail;refine (quickQ_any p (by omega) _).mono ?_;rintro e w1 ⟨_, rfl, ⟨x, y, one, rfl, hx⟩, rfl⟩;rcases Bool.eq_false_or_eq_true one with h1 | h1
 case' inl =>
  subst h1;obtain ⟨hx1, hx2, hx3, hx4⟩ := hx rfl;have HX1 := hid hx1;have HX2 := hid hx2;clear hx hx1 hx2;go_wp2_with fail;refine (quickQ_any q (by omega) _).mono ?_;rintro e w2 ⟨_, rfl, ⟨x2, y2, two, rfl, hy⟩, rfl⟩;rcases Bool.eq_false_or_eq_true two with h2 | h2
 ·subst h2
  obtain ⟨hy1, hy2, hy3, hy4⟩ := hy rfl;clear hy;have hl1 := prod_lim hx3 hy3;have hl2 := prod_lim (x := y) (y := y2) (by omega) (by omega);have HE := hid (smallQ_any (x * x2) (p.den * q.den) (y * y2) (by rw [HX2.out, hy2]; exact HD.out) hd (by omega) (by omega) w hg);have HR : Hid (mkRat (x * x2) (p.den * q.den) = p * q) := by unfold Hid; rw [HX1.out, hy1]; exact HM.out
  clear hy1 hy2;go_wp2_with fail;refine HE.out.mono ?_;rintro e w3 ⟨_, rfl, rfl, hb4⟩;rw [HR.out];go_wp2_with fail;go_ret;exact ⟨_, rfl, rfl, hb4⟩
 all_goals
  first
  | subst h2
    clear hy HX1 HX2 hx3 hx4
  | subst h1
    clear hx
  go_upto_region 13 with fail
 all_goals
  go_wp2_with fail;refine ((parts_rat p (by omega) _ hg).mono fun _ _ h => h.ret).mono ?_;rintro e w4 ⟨_, rfl, rfl, hb4⟩;have hb5 := hb4;have hg5 := hg.below hb5;clear hb4;go_wp2_with fail;refine ((parts_rat q (by omega) _ hg5).mono fun _ _ h => h.ret).mono ?_;rintro e w5 ⟨_, rfl, rfl, hb4⟩;have hb6 := hb5.trans (hb4.mono hb5.size);clear hb5 hb4;have hg6 := hg.below hb6;go_wp2_with fail;refine (mul_any p.num q.num (by omega) (by omega) _ hg6).mono ?_;rintro e w6 ⟨_, rfl, rfl, hb4⟩;have hb7 := hb6.trans (hb4.mono hb6.size);clear hb6 hb4 hg6;have hg7 := hg.below hb7;go_wp2_with fail;refine (mul_any (p.den : Int) (q.den : Int) (by omega) (by omega) _ hg7).mono ?_;rintro e w7 ⟨_, rfl, rfl, hb4⟩;have hb8 := hb7.trans (hb4.mono hb7.size);clear hb7 hb4 hg7;have hg8 := hg.below hb8;go_wp2_with fail;refine (lowestI_any (p.num * q.num) ((p.den : Int) * (q.den : Int)) (p.num * q.num) (p.den * q.den) _ HD.out hd (by have := HMN.out; omega) (by have := HMD.out; omega) (.inl ⟨rfl, rfl⟩) _ hg8).mono ?_;rintro e w8 ⟨_, rfl, rfl, hb4⟩;rw [HM.out];go_wp2_with fail;go_ret;exact ⟨_, rfl, rfl, hb8.trans (hb4.mono hb8.size)⟩
theorem ratAdd_any (p q : Rat) (k : Nat) (hk : 0 < k) (hk2 : k <= 20000) (hp : Sz k p) (hq : Sz k q) (w : World) (hg : Good w) :
 Calls Tryz.prog 24 #[.string (RS p), .string (RS q)] w (Ret (fun v _ => v = .string (RS (p + q))) w) := by
 have hsp := hp.size hk;have hsq := hq.size hk;have hpn := hp.num_size hk;have hqn := hq.num_size hk;have hpd := hp.den_size hk;have hqd := hq.den_size hk;have HM : Hid (mkRat (p.num * (q.den : Int) + q.num * (p.den : Int)) (p.den * q.den) = p + q) := by unfold Hid; rw [Rat.add_def']
 have hd : 0 < p.den * q.den := Nat.mul_pos p.den_pos q.den_pos;have HD : Hid ((p.den : Int) * (q.den : Int) = ((p.den * q.den : Nat) : Int)) := by unfold Hid; omega
 have HM1 := hid (mul_size (j := k + 1) (k := k + 1) (by omega) (by omega) hpn hqd);have HM2 := hid (mul_size (j := k + 1) (k := k + 1) (by omega) (by omega) hqn hpd);have HMN := hid (add_size (k := 2 * k + 3) (by omega) (a := p.num * (q.den : Int)) (b := q.num * (p.den : Int)) (by have := HM1.out; omega) (by have := HM2.out; omega));have HMD := hid (mul_size (j := k + 1) (k := k + 1) (by omega) (by omega) hpd hqd);clear hp hq;have p8 := RS_eq48 p;have q8 := RS_eq48 q;by_cases hp0 : p = 0
 ·rw [decide_eq_true hp0] at p8
  have HF : Hid (RS q = RS (p + q)) := by unfold Hid; rw [hp0, Rat.zero_add]
  clear hp0 q8;go_enter Tryz.func24, Tryz.ntmps24;go_wp2_with fail;go_ret;exact ⟨_, rfl, congrArg Value.string HF.out, Below.refl _ _⟩
 rw [decide_eq_false hp0] at p8;clear hp0;by_cases hq0 : q = 0
 ·rw [decide_eq_true hq0] at q8
  have HF : Hid (RS p = RS (p + q)) := by unfold Hid; rw [hq0, Rat.add_zero]
  clear hq0;go_enter Tryz.func24, Tryz.ntmps24;go_wp2_with fail;go_ret;exact ⟨_, rfl, congrArg Value.string HF.out, Below.refl _ _⟩
 rw [decide_eq_false hq0] at q8;clear hq0;go_enter Tryz.func24, Tryz.ntmps24;go_wp2_with fail;refine (quickQ_any p (by omega) _).mono ?_;rintro e w1 ⟨_, rfl, ⟨x, y, one, rfl, hx⟩, rfl⟩;rcases Bool.eq_false_or_eq_true one with h1 | h1
 case' inl =>
  subst h1;obtain ⟨hx1, hx2, hx3, hx4⟩ := hx rfl;have HX1 := hid hx1;have HX2 := hid hx2;clear hx hx1 hx2;go_wp2_with fail;refine (quickQ_any q (by omega) _).mono ?_;rintro e w2 ⟨_, rfl, ⟨x2, y2, two, rfl, hy⟩, rfl⟩;rcases Bool.eq_false_or_eq_true two with h2 | h2
 ·subst h2
  obtain ⟨hy1, hy2, hy3, hy4⟩ := hy rfl;clear hy;have hl1 := prod_lim (x := x) (y := y2) (by omega) (by omega);have hl3 := prod_lim (x := x2) (y := y) (by omega) (by omega);have hl2 := prod_lim (x := y) (y := y2) (by omega) (by omega);have HE := hid (smallQ_any (x * y2 + x2 * y) (p.den * q.den) (y * y2) (by rw [HX2.out, hy2]; exact HD.out) hd (by omega) (by omega) w hg);have HR : Hid (mkRat (x * y2 + x2 * y) (p.den * q.den) = p + q) := by unfold Hid; rw [HX1.out, hy1, HX2.out, hy2]; exact HM.out
  clear hy1 hy2;go_wp2_with fail;refine HE.out.mono ?_;rintro e w3 ⟨_, rfl, rfl, hb4⟩;rw [HR.out];go_wp2_with fail;go_ret;exact ⟨_, rfl, rfl, hb4⟩
 all_goals
  first
  | subst h2
    clear hy HX1 HX2 hx3 hx4
  | subst h1
    clear hx
  go_upto_region 10 with fail
 all_goals
  go_wp2_with fail;refine ((parts_rat p (by omega) _ hg).mono fun _ _ h => h.ret).mono ?_;rintro e w4 ⟨_, rfl, rfl, hb4⟩;have hb5 := hb4;have hg5 := hg.below hb5;clear hb4;go_wp2_with fail;refine ((parts_rat q (by omega) _ hg5).mono fun _ _ h => h.ret).mono ?_;rintro e w5 ⟨_, rfl, rfl, hb4⟩;have hb6 := hb5.trans (hb4.mono hb5.size);clear hb5 hb4;have hg6 := hg.below hb6;go_wp2_with fail;refine (mul_any p.num (q.den : Int) (by omega) (by omega) _ hg6).mono ?_;rintro e w61 ⟨_, rfl, rfl, hb4⟩;have hb61 := hb6.trans (hb4.mono hb6.size);clear hb6 hb4 hg6;have hg61 := hg.below hb61;go_wp2_with fail;refine (mul_any q.num (p.den : Int) (by omega) (by omega) _ hg61).mono ?_;rintro e w62 ⟨_, rfl, rfl, hb4⟩;have hb62 := hb61.trans (hb4.mono hb61.size);clear hb61 hb4 hg61;have hg62 := hg.below hb62;go_wp2_with fail;refine (add_any (p.num * (q.den : Int)) (q.num * (p.den : Int)) (by have := HM1.out; omega) (by have := HM2.out; omega) _ hg62).mono ?_;rintro e w6 ⟨_, rfl, rfl, hb4⟩;have hb7 := hb62.trans (hb4.mono hb62.size);clear hb62 hb4 hg62;have hg7 := hg.below hb7;go_wp2_with fail;refine (mul_any (p.den : Int) (q.den : Int) (by omega) (by omega) _ hg7).mono ?_;rintro e w7 ⟨_, rfl, rfl, hb4⟩;have hb8 := hb7.trans (hb4.mono hb7.size);clear hb7 hb4 hg7;have hg8 := hg.below hb8;go_wp2_with fail;refine (lowestI_any (p.num * (q.den : Int) + q.num * (p.den : Int)) ((p.den : Int) * (q.den : Int)) (p.num * (q.den : Int) + q.num * (p.den : Int)) (p.den * q.den) _ HD.out hd (by have := HMN.out; omega) (by have := HMD.out; omega) (.inl ⟨rfl, rfl⟩) _ hg8).mono ?_;rintro e w8 ⟨_, rfl, rfl, hb4⟩;rw [HM.out];go_wp2_with fail;go_ret;exact ⟨_, rfl, rfl, hb8.trans (hb4.mono hb8.size)⟩
theorem ratNeg_any (q : Rat) (hsz : (RS q).size <= 100000) (w : World) :
 Calls Tryz.prog 84 #[.string (RS q)] w (Drawn (fun v => v = .string (RS (-q))) w) := by
 have h8 := RS_eq48 q;have hs0 := RS_pos q;have hh := RS_head q hs0;have hz := @Rat.num_eq_zero q;obtain ⟨s, hs⟩ : ∃ s, s = RS q := ⟨_, rfl⟩;have HS := hid hs;simp only [<- hs] at h8 hs0 hh hsz ⊢;obtain ⟨c0, hc0⟩ : ∃ c0 : Nat, s[0].toNat = c0 := ⟨_, rfl⟩;rw [hc0] at hh;clear hs;rcases Int.lt_trichotomy q.num 0 with h | h | h
 ·have t1 : ((c0 : Int) == 45) = true := by rw [beq_iff_eq]; have := hh.2 h; omega
  rw [decide_eq_false (fun e => by have := hz.2 e; omega)] at h8;have HR : Hid (s.extract 1 s.size = RS (-q)) := by
   unfold Hid;apply ba_ext;rw [ba_drop, BS_list, HS.out, RS_list, RS_list, RL_neg q h]
  clear hh hz h;go_enter Tryz.func84, Tryz.ntmps84;go_wp2_with fail;go_ret;exact ⟨_, rfl, congrArg Value.string HR.out, dr_zero _⟩
 ·have hR : Hid (s = RS (-q)) := by unfold Hid; rw [HS.out, hz.1 h]; rfl
  rw [decide_eq_true (hz.1 h)] at h8;clear hh hz h;go_enter Tryz.func84, Tryz.ntmps84;go_wp2_with fail;go_ret;exact ⟨_, rfl, congrArg Value.string hR.out, dr_zero _⟩
 ·have t1 : ((c0 : Int) == 45) = false := by rw [beq_eq_false_iff_ne]; intro e; have := hh.1 (by omega); omega
  rw [decide_eq_false (fun e => by have := hz.2 e; omega)] at h8;have HR : Hid ((⟨#[45]⟩ : ByteArray) ++ s = RS (-q)) := by
   unfold Hid;apply ba_ext; rw [ba_append, HS.out, RS_list, RS_list, <- RL_pos q h]; rfl
  clear hh hz h;go_enter Tryz.func84, Tryz.ntmps84;go_wp2_with fail;go_ret;exact ⟨_, rfl, congrArg Value.string HR.out, dr_zero _⟩
theorem ratSign_any (q : Rat) (w : World) :
 Calls Tryz.prog 22 #[.string (RS q)] w (Drawn (fun v => v = .int .i64 q.num.sign) w) := by
 have h8 := RS_eq48 q;have hs0 := RS_pos q;have hh := RS_head q hs0;have hz := @Rat.num_eq_zero q;generalize RS q = s at *;have hl : (0 : Int) < (s.size : Int) := by omega
 obtain ⟨c0, hc0⟩ : ∃ c0 : Nat, s[0].toNat = c0 := ⟨_, rfl⟩;rw [hc0] at hh;rcases Int.lt_trichotomy q.num 0 with h | h | h
 ·have hs : Hid (q.num.sign = -1) := Int.sign_eq_neg_one_of_neg h
  have t1 : ((c0 : Int) == 45) = true := by rw [beq_iff_eq]; have := hh.2 h; omega
  rw [decide_eq_false (fun e => by have := hz.2 e; omega)] at h8;clear hh hz h;go_enter Tryz.func22, Tryz.ntmps22;go_wp2_with fail;go_ret;exact ⟨_, rfl, congrArg (Value.int .i64) hs.out.symm, dr_zero _⟩
 ·have hs : Hid (q.num.sign = 0) := by unfold Hid; rw [h]; rfl
  rw [decide_eq_true (hz.1 h)] at h8;clear hh hz h;go_enter Tryz.func22, Tryz.ntmps22;go_wp2_with fail;go_ret;exact ⟨_, rfl, congrArg (Value.int .i64) hs.out.symm, dr_zero _⟩
 ·have hs : Hid (q.num.sign = 1) := Int.sign_eq_one_of_pos h
  have t1 : ((c0 : Int) == 45) = false := by rw [beq_eq_false_iff_ne]; intro e; have := hh.1 (by omega); omega
  rw [decide_eq_false (fun e => by have := hz.2 e; omega)] at h8;clear hh hz h;go_enter Tryz.func22, Tryz.ntmps22;go_wp2_with fail;go_ret;exact ⟨_, rfl, congrArg (Value.int .i64) hs.out.symm, dr_zero _⟩
theorem ratSub_any (p q : Rat) (k : Nat) (hk : 0 < k) (hk2 : k <= 20000) (hp : Sz k p) (hq : Sz k q) (w : World) (hg : Good w) :
 Calls Tryz.prog 32 #[.string (RS p), .string (RS q)] w (Ret (fun v _ => v = .string (RS (p - q))) w) := by
 have hsz : (RS q).size <= 100000 := Nat.le_trans (hq.size hk) (by omega);have HE : Hid (p + -q = p - q) := by unfold Hid; rw [Rat.sub_eq_add_neg]
 have HP := hid hp;have HQ := hid hq.neg;clear hp hq;go_enter Tryz.func32, Tryz.ntmps32;go_wp2_with fail;refine ((ratNeg_any q hsz _).mono fun _ _ h => h.ret).mono ?_;rintro e w1 ⟨_, rfl, rfl, hb1⟩;go_wp2_with fail;refine (ratAdd_any p (-q) k hk hk2 HP.out HQ.out _ (hg.below hb1)).mono ?_;rintro e w2 ⟨_, rfl, rfl, hb2⟩;rw [HE.out];go_wp2_with fail;go_ret;exact ⟨_, rfl, rfl, hb1.trans (hb2.mono hb1.size)⟩
theorem RS_beq (p q : Rat) : ((RS p).toList == (RS q).toList) = decide (p = q) := by rw [ba_toList, ba_toList, RS_list, RS_list, RL_beq]
theorem cmpQ_cmpZ (p q : Rat) : cmpQ p q = cmpZ (p.num * (q.den : Int)) (q.num * (p.den : Int)) := by
 unfold cmpQ cmpZ;simp only [Rat.lt_iff]
theorem cmpQ_self (p : Rat) : cmpQ p p = 0 := by
 unfold cmpQ; rw [if_neg (Rat.lt_irrefl), if_neg (Rat.lt_irrefl)]
theorem ratCompare_any (p q : Rat) (k : Nat) (hk : 0 < k) (hk2 : k <= 20000) (hp : Sz k p) (hq : Sz k q) (w : World) (hg : Good w) :
 Calls Tryz.prog 31 #[.string (RS p), .string (RS q)] w (Ret (fun v _ => v = .int .i64 (cmpQ p q)) w) := by
 have hsp := hp.size hk;have hsq := hq.size hk;have hpn := hp.num_size hk;have hqn := hq.num_size hk;have hpd := hp.den_size hk;have hqd := hq.den_size hk;have HC := hid (cmpQ_cmpZ p q);have HM1 := hid (mul_size (j := k + 1) (k := k + 1) (by omega) (by omega) hpn hqd);have HM2 := hid (mul_size (j := k + 1) (k := k + 1) (by omega) (by omega) hqn hpd);clear hp hq;have he := RS_beq p q;by_cases hpq : p = q
 ·rw [decide_eq_true hpq] at he
  have HF : Hid (cmpQ p q = 0) := by unfold Hid; rw [hpq, cmpQ_self]
  clear hpq;go_enter Tryz.func31, Tryz.ntmps31;go_wp2_with fail;go_ret;exact ⟨_, rfl, congrArg (Value.int .i64) HF.out.symm, Below.refl _ _⟩
 rw [decide_eq_false hpq] at he;clear hpq;go_enter Tryz.func31, Tryz.ntmps31;go_wp2_with fail;refine (quickQ_any p (by omega) _).mono ?_;rintro e w1 ⟨_, rfl, ⟨x, y, one, rfl, hx⟩, rfl⟩;rcases Bool.eq_false_or_eq_true one with h1 | h1
 case' inl =>
  subst h1;obtain ⟨hx1, hx2, hx3, hx4⟩ := hx rfl;have HX1 := hid hx1;have HX2 := hid hx2;clear hx hx1 hx2;go_wp2_with fail;refine (quickQ_any q (by omega) _).mono ?_;rintro e w2 ⟨_, rfl, ⟨x2, y2, two, rfl, hy⟩, rfl⟩;rcases Bool.eq_false_or_eq_true two with h2 | h2
 ·subst h2
  obtain ⟨hy1, hy2, hy3, hy4⟩ := hy rfl;clear hy;have hl1 := prod_lim (x := x) (y := y2) (by omega) (by omega);have hl3 := prod_lim (x := x2) (y := y) (by omega) (by omega);have HR : Hid (cmpQ p q = cmpZ (x * y2) (x2 * y)) := by unfold Hid; rw [HX1.out, hy1, HX2.out, hy2]; exact HC.out
  clear hy1 hy2 HC;rcases Int.lt_trichotomy (x * y2) (x2 * y) with h | h | h
  ·have HF : Hid (cmpQ p q = -1) := HR.out.trans (cmpZ_lt h)
   clear HR;go_wp2_with fail;go_ret;exact ⟨_, rfl, congrArg (Value.int .i64) HF.out.symm, Below.refl _ _⟩
  ·have HF : Hid (cmpQ p q = 0) := HR.out.trans (by unfold cmpZ; rw [if_neg (by omega), if_neg (by omega)])
   have HH := hid h;have h5 : ¬ (x * y2 < x2 * y) := by omega
   have h6 : ¬ (x2 * y < x * y2) := by omega
   clear HR h;go_wp2_with fail;go_ret;exact ⟨_, rfl, congrArg (Value.int .i64) HF.out.symm, Below.refl _ _⟩
  ·have HF : Hid (cmpQ p q = 1) := HR.out.trans (cmpZ_gt h)
   have h5 : ¬ (x * y2 < x2 * y) := by omega
   clear HR;go_wp2_with fail;go_ret;exact ⟨_, rfl, congrArg (Value.int .i64) HF.out.symm, Below.refl _ _⟩
 all_goals
  first
  | subst h2
    clear hy HX1 HX2 hx3 hx4
  | subst h1
    clear hx
  go_upto_region 13 with fail
 all_goals
  go_wp2_with fail;refine ((parts_rat p (by omega) _ hg).mono fun _ _ h => h.ret).mono ?_;rintro e w4 ⟨_, rfl, rfl, hb4⟩;have hg5 := hg.below hb4;go_wp2_with fail;refine ((parts_rat q (by omega) _ hg5).mono fun _ _ h => h.ret).mono ?_;rintro e w5 ⟨_, rfl, rfl, hb5⟩;have hb6 := hb4.trans (hb5.mono hb4.size);clear hb5 hb4 hg5;have hg6 := hg.below hb6;go_wp2_with fail;refine (mul_any p.num (q.den : Int) (by omega) (by omega) _ hg6).mono ?_;rintro e w61 ⟨_, rfl, rfl, hb4⟩;have hb61 := hb6.trans (hb4.mono hb6.size);clear hb6 hb4 hg6;have hg61 := hg.below hb61;go_wp2_with fail;refine (mul_any q.num (p.den : Int) (by omega) (by omega) _ hg61).mono ?_;rintro e w62 ⟨_, rfl, rfl, hb4⟩;have hb62 := hb61.trans (hb4.mono hb61.size);clear hb61 hb4 hg61;go_wp2_with fail;refine (compare_any (p.num * (q.den : Int)) (q.num * (p.den : Int)) (by have := HM1.out; omega) (by have := HM2.out; omega) _).mono ?_;rintro e w63 ⟨_, rfl, rfl, rfl⟩;rw [<- HC.out];go_wp2_with fail;go_ret;exact ⟨_, rfl, rfl, hb62⟩
theorem inv_texts (q : Rat) (h : q.num ≠ 0) (x : Int) (hx : x = if q.num < 0 then -(q.den : Int) else (q.den : Int)) :
 ((q.num.natAbs : Int) = 1 -> IS x = RS q⁻¹) /\ ((q.num.natAbs : Int) ≠ 1 -> (IS x ++ ⟨#[47]⟩) ++ IS (q.num.natAbs : Int) = RS q⁻¹) := by
 obtain ⟨n, hab, hm⟩ := inv_mkRat q h;have hxn : x = n := by
  rw [hx];rcases hab with ⟨h1, h2⟩ | ⟨h1, h2⟩
  ·rw [if_neg (by omega), h2]
  ·rw [if_pos (by omega), h2]; omega
 have hnn : n.natAbs = q.den := by rcases hab with ⟨h1, h2⟩ | ⟨h1, h2⟩ <;> omega
 have hg : 1 = Nat.gcd n.natAbs q.num.natAbs := by
  rw [hnn, Nat.gcd_comm]; exact Eq.symm q.reduced
 have hr := RS_mkRat (n := n) (d := q.num.natAbs) (g := 1) (by omega) hg (x := x) (y := (q.num.natAbs : Int)) (by rw [hxn, show ((1 : Nat) : Int) = 1 from rfl, Int.tdiv_one]) (by rw [Nat.div_one]);rw [hm] at hr;exact hr
theorem ratDiv_any (p q : Rat) (k : Nat) (hk : 0 < k) (hk2 : k <= 20000) (hp : Sz k p) (hq : Sz k q) (h0 : q ≠ 0) (w : World) (hg : Good w) :
 Calls Tryz.prog 167 #[.string (RS p), .string (RS q)] w (Ret (fun v _ => v = .tuple #[.string (RS (p / q)), .int .i64 0]) w) := by
 have hn0 : q.num ≠ 0 := fun e => h0 (Rat.num_eq_zero.1 e);have HT := hid (inv_texts q hn0);have HE : Hid (p * q⁻¹ = p / q) := by unfold Hid; rw [Rat.div_def]
 have HP := hid hp;have HQ := hid (hq.inv hk);have hqn := hq.num_size hk;have hqd := hq.den_size hk;have hqs := hq.size hk;have hqn' := neg_size hqn;have hqa : (IS (q.num.natAbs : Int)).size <= k + 1 := abs_size hqn;have hqd' := neg_size hqd;have h8 := RS_eq48 q;rw [decide_eq_false h0] at h8;have hs0 := RS_pos q;have hh := RS_head q hs0;have HPT := fun w hg => hid (parts_rat q (by omega) w hg)
 clear hp hq h0;generalize RS q = s at *;obtain ⟨c0, hc0⟩ : ∃ c0 : Nat, s[0].toNat = c0 := ⟨_, rfl⟩;rw [hc0] at hh;rcases Int.lt_or_lt_of_ne hn0 with h | h
 ·have t1 : ((c0 : Int) == 45) = true := by rw [beq_iff_eq]; have := hh.2 h; omega
  have HA : Hid (-q.num = (q.num.natAbs : Int)) := by unfold Hid; omega
  have HJ := hid (HT.out (-(q.den : Int)) (by rw [if_pos h]));clear hh h hn0;go_enter Tryz.func167, Tryz.ntmps167;go_wp2_with fail;refine ((HPT _ hg).out.mono fun _ _ h => h.ret).mono ?_;rintro e w1 ⟨_, rfl, rfl, hb1⟩;go_wp2_with fail;refine (neg_any q.num (by omega) _).mono ?_;rintro e w2 ⟨_, rfl, rfl, rfl⟩;go_wp2_with fail;refine (neg_any (q.den : Int) (by omega) _).mono ?_;rintro e w2 ⟨_, rfl, rfl, rfl⟩;rw [HA.out];go_wp2_with fail;refine (joinQ_any (-(q.den : Int)) (q.num.natAbs : Int) (RS q⁻¹) HJ.out (by omega) (by omega) _).mono ?_;rintro e w2 ⟨_, rfl, rfl, rfl⟩;go_wp2_with fail;refine (ratMul_any p q⁻¹ k hk hk2 HP.out HQ.out _ (hg.below hb1)).mono ?_;rintro e w3 ⟨_, rfl, rfl, hb4⟩;rw [HE.out];go_wp2_with fail;go_ret2;exact ⟨_, rfl, rfl, hb1.trans (hb4.mono hb1.size)⟩
 ·have t1 : ((c0 : Int) == 45) = false := by rw [beq_eq_false_iff_ne]; intro e; have := hh.1 (by omega); omega
  have HA : Hid (q.num = (q.num.natAbs : Int)) := by unfold Hid; omega
  have HJ := hid (HT.out (q.den : Int) (by rw [if_neg (by omega)]));clear hh h hn0;go_enter Tryz.func167, Tryz.ntmps167;go_wp2_with fail;refine ((HPT _ hg).out.mono fun _ _ h => h.ret).mono ?_;rintro e w1 ⟨_, rfl, rfl, hb1⟩;go_upto_region 6 with fail;have HJ2 := hid (joinQ_any (q.den : Int) q.num (RS q⁻¹) (by rw [HA.out]; exact HJ.out) (by omega) (by omega));go_wp2_with fail;refine (HJ2.out _).mono ?_;rintro e w2 ⟨_, rfl, rfl, rfl⟩;go_wp2_with fail;refine (ratMul_any p q⁻¹ k hk hk2 HP.out HQ.out _ (hg.below hb1)).mono ?_;rintro e w3 ⟨_, rfl, rfl, hb4⟩;rw [HE.out];go_wp2_with fail;go_ret2;exact ⟨_, rfl, rfl, hb1.trans (hb4.mono hb1.size)⟩
theorem sign_ne {b : Int} (h : b ≠ 0) : b.sign ≠ 0 := fun e => h (Int.sign_eq_zero_iff_zero.1 e)
theorem ratNew_any (a b n : Int) (d : Nat) (dz : Int) (hdz : dz = (d : Int)) (hd : 0 < d) (hsa : (IS a).size <= 90000) (hsb : (IS b).size <= 90000)
 (hab : (b = dz /\ a = n) \/ (b = -dz /\ a = -n)) (w : World) (hg : Good w) :
 Calls Tryz.prog 76 #[.string (IS a), .string (IS b)] w (Ret (fun v _ => v = .tuple #[.string (RS (mkRat n d)), .int .i64 0]) w) := by
 have hb0 : b ≠ 0 := by omega
 have hs := sign_ne hb0;obtain ⟨sg, hsg⟩ : ∃ sg, sg = b.sign := ⟨_, rfl⟩;rw [<- hsg] at hs;have HSG := hid hsg;have HDZ := hid hdz;have HAB := hid hab;have t1 : (sg == 0) = false := by rw [beq_eq_false_iff_ne]; exact hs
 clear hsg hdz hab hb0;go_enter Tryz.func76, Tryz.ntmps76;go_wp2_with fail;refine (sign_any b _).mono ?_;rintro e w1 ⟨_, rfl, rfl, rfl⟩;rw [<- HSG.out];go_wp2_with fail;refine (lowestI_any a b n d dz HDZ.out hd hsa hsb HAB.out _ hg).mono ?_;rintro e w2 ⟨_, rfl, rfl, hb1⟩;go_wp2_with fail;go_ret2;exact ⟨_, rfl, rfl, hb1⟩
theorem ratOf_any (a b n : Int) (d : Nat) (dz : Int) (hdz : dz = (d : Int)) (hd : 0 < d) (ha : -9223372036854775808 <= a /\ a <= 9223372036854775807) (hb : -9223372036854775808 <= b /\ b <= 9223372036854775807)
 (hab : (b = dz /\ a = n) \/ (b = -dz /\ a = -n)) (w : World) (hg : Good w) :
 Calls Tryz.prog 27 #[.int .i64 a, .int .i64 b] w (Ret (fun v _ => v = .tuple #[.string (RS (mkRat n d)), .int .i64 0]) w) := by
 have hsa := IS_size20 (x := a) (by omega);have hsb := IS_size20 (x := b) (by omega);have HDZ := hid hdz;have HAB := hid hab;clear hdz hab;go_enter Tryz.func27, Tryz.ntmps27;go_wp2_with fail;refine (of_any a (by omega) (by omega) _ hg).mono ?_;rintro e w1 ⟨_, rfl, rfl, hb1⟩;have hg1 := hg.below hb1;go_wp2_with fail;refine (of_any b (by omega) (by omega) _ hg1).mono ?_;rintro e w2 ⟨_, rfl, rfl, hb2⟩;have hb3 := hb1.trans (hb2.mono hb1.size);clear hb1 hb2 hg1;have hg3 := hg.below hb3;go_wp2_with fail;refine (ratNew_any a b n d dz HDZ.out hd (by omega) (by omega) HAB.out _ hg3).mono ?_;rintro e w3 ⟨_, rfl, rfl, hb4⟩;go_wp2_with fail;go_ret2;exact ⟨_, rfl, rfl, hb3.trans (hb4.mono hb3.size)⟩
def RdQ (w : World) (v : Value) (l : List Rat) : Prop := RdC 1 w v l.length (l.map fun q => Value.string (RS q))
theorem RdQ.open {w : World} {v : Value} {l : List Rat} (h : RdQ w v l) : ∃ p c, v = .slice p l.length c /\ l.length <= c /\ c <= maxLen /\
 (l ≠ [] -> ∃ b off, p = some ⟨b, off, none⟩ /\ b < w.heap.size /\ ∀ (i : Nat) (hi : i < l.length), w.cell? ⟨b, off + i, none⟩ = some (.string (RS l[i]))) := by
 obtain ⟨p, c, hv, h1, h2, h3, h4⟩ := h;refine ⟨p, c, hv, h1, h2, fun hne => ?_⟩;obtain ⟨b, off, hp, hc⟩ := h4 (by simpa using hne);have hcell : ∀ (i : Nat) (hi : i < l.length), w.cell? ⟨b, off + i, none⟩ = some (.string (RS l[i])) := fun i hi => hc i _ (by simp [hi])
 have h0 : 0 < l.length := List.length_pos_iff.2 hne;exact ⟨b, off, hp, World.block_lt_of_cell? w _ (hcell 0 h0), hcell⟩
theorem fold_step (l : List Rat) (i : Nat) (h : i < l.length) : (l.take (i + 1)).foldl (· + ·) 0 = (l.take i).foldl (· + ·) 0 + l[i] := by
 rw [List.take_succ_eq_append_getElem h, List.foldl_append]; rfl
theorem ratSum_any (l : List Rat) (k : Nat) (hk : 0 < k) (hlen : l.length * (k + 1) + 1 <= 20000) (hl : ∀ q ∈ l, Sz k q) (v : Value) (w : World) (hr : RdQ w v l) (hg : Good w) :
 Calls Tryz.prog 43 #[v] w (Ret (fun r _ => r = .string (RS (l.foldl (·+ ·) 0))) w) := by
 obtain ⟨p, c, rfl, hlc, hcm, hr'⟩ := hr.open;clear hr;have HL := hid hl;have HR := hid hr';clear hl hr';have hlm : l.length <= 20000 := by
  have : l.length * 1 <= l.length * (k + 1) := Nat.mul_le_mul_left _ (by omega);omega
 have HLEN := hid hlen;clear hlen;go_enter Tryz.func43, Tryz.ntmps43;go_wp2_with fail;go_loopw [3, 8] (fun t3 t8 wr => ∃ (i : Nat) (s : Rat), t3 = .string (RS s) /\ t8 = .int .i64 i /\ i <= l.length /\ Hid (s = (l.take i).foldl (·+ ·) 0) /\ Hid (Sz (i * (k + 1) + 1) s) /\ Below w.heap.size w wr) (fun _ t8 _ => l.length - (RowKit.intOf t8).toNat)
 case atStart => exact ⟨0, 0, congrArg Value.string RS_zero.symm, rfl, Nat.zero_le _, rfl, Sz.zero _ (by omega), Below.refl _ _⟩
 case round =>
  obtain ⟨i, s, rfl, rfl, hi, HS, HZ, hbl⟩ := hrel;rcases Nat.lt_or_ge i l.length with h | h
  ·obtain ⟨b, off, rfl, hbs, hcell⟩ := HR.out (by intro e; rw [e] at h; simp at h)
   have hc : wr.cell? ⟨b, off + i, none⟩ = some (.string (RS l[i])) := (zcq hbl hbs (hcell i h) :);have hzx := HL.out l[i] (List.getElem_mem h);have hst := fold_step l i h;obtain ⟨x, hx⟩ : ∃ x, x = l[i] := ⟨_, rfl⟩;rw [<- hx] at hc hzx hst;have HN : Hid (s + x = (l.take (i + 1)).foldl (·+ ·) 0) := by unfold Hid; rw [hst, HS.out]
   have hmul : (i + 1) * (k + 1) <= l.length * (k + 1) := Nat.mul_le_mul_right _ h;have hexp : (i + 1) * (k + 1) = i * (k + 1) + (k + 1) := Nat.succ_mul _ _;have HZN : Hid (Sz ((i + 1) * (k + 1) + 1) (s + x)) := (HZ.out.add hzx).mono (by omega);have HZS : Hid (Sz 20000 s) := HZ.out.mono (by have := HLEN.out; omega);have HZX : Hid (Sz 20000 x) := hzx.mono (by have := HLEN.out; omega);have hgr := hg.below hbl;clear hx hzx hst hmul hexp hcell HS HZ;go_wp2_with fail;refine (ratAdd_any s x 20000 (by omega) (by omega) HZS.out HZX.out _ hgr).mono ?_;rintro e w2 ⟨_, rfl, rfl, hb2⟩;have hb3 := hbl.trans (hb2.mono hbl.size);clear hb2 hgr;go_wp2_with fail;go_roundw
   case rel => exact ⟨i + 1, s + x, rfl, by go_num, h, HN, HZN, hb3⟩
   case measure => simp [RowKit.intOf]; omega
  ·have HF : Hid (s = l.foldl (·+ ·) 0) := by have := HS.out; rw [List.take_of_length_le h] at this; exact this
   clear HS HZ;go_wp2_with fail;go_ret;exact ⟨_, rfl, congrArg (fun z => Value.string (RS z)) HF.out, hbl⟩
def valI (l : List UInt8) : Int := (atoi l).getD 0
theorem valI_itoa (n : Int) : valI (itoa n) = n := by unfold valI; rw [atoi_itoa]; rfl
def fitB (a b : Int) : Bool := decide (1 < b) && !(decide (a = 0)) && decide (Int.gcd a b = 1)
def rightQ (l : List UInt8) : Bool := rightI (fst47 l) && (decide (indexByte l 47 < 0) || (rightI (snd47 l) && fitB (valI (fst47 l)) (valI (snd47 l))))
theorem rightI_val {l : List UInt8} (h : rightI l = true) : l = itoa (valI l) /\ (BS l).size <= 201 := by
 unfold rightI at h;rw [Bool.and_eq_true] at h;obtain ⟨n, hn⟩ := canonB_val h.1;have h2 := of_decide_eq_true h.2;refine ⟨by rw [hn, valI_itoa], ?_⟩;rw [hn, itoa_trim] at h2;rw [BS_size, hn, itoa_len];rw [decDigits_length] at h2;split <;> omega
theorem cut47 (l : List UInt8) : cut l [47] = if indexByte l 47 < 0 then (l, [], false) else (fst47 l, snd47 l, true) := by
 unfold cut fst47 snd47;rw [index_one];by_cases h : 0 <= indexByte l 47
 ·rw [if_pos h, if_neg (by omega), if_pos h, if_pos h]; rfl
 ·rw [if_neg h, if_pos (by omega)]
theorem err_ok {l : List UInt8} (h : rightQ l = true) : 0 = errNum (rightQ l) := by rw [h]; rfl
theorem err_bad {l : List UInt8} (h : rightQ l = false) : 2 = errNum (rightQ l) := by rw [h]; rfl
theorem checkQ_any (s : ByteArray) (hs : s.size < 1000000000) (w : World) (hg : Good w) :
 Calls Tryz.prog 66 #[.string s] w (Ret (fun v _ => v = .int .i64 (errNum (rightQ s.data.toList))) w) := by
 obtain ⟨l, hl⟩ : ∃ l, l = s.data.toList := ⟨_, rfl⟩;have HC := hid (cut47 l);obtain ⟨A, hA⟩ : ∃ A, A = fst47 l := ⟨_, rfl⟩;obtain ⟨D, hD⟩ : ∃ D, D = snd47 l := ⟨_, rfl⟩;have HQ : Hid (rightQ l = (rightI A && (decide (indexByte l 47 < 0) || (rightI D && fitB (valI A) (valI D))))) := by unfold Hid rightQ; rw [hA, hD]
 rw [<- hA, <- hD] at HC;have hfn : indexByte l 47 < 0 -> A = l := fun h => by rw [hA]; unfold fst47; rw [if_neg (by omega)]
 have HFN := hid hfn;have hAs : (BS A).data.toList = A := BS_list A;have hDs : (BS D).data.toList = D := BS_list D;rw [<- hl];have HCUT := hid (cut_any s hs w hg);rw [<- hl] at HCUT;have HCA := hid (checkI_any (BS A));have HCD := hid (checkI_any (BS D));rw [hAs] at HCA;rw [hDs] at HCD;have hsl : l.length = s.size := by rw [hl, Array.length_toList]; rfl
 have hsA : (BS A).size <= 1000000000000 := by
  rw [BS_size, hA]; unfold fst47; split
  ·rw [List.length_take]; omega
  ·omega
 have hsD : (BS D).size <= 1000000000000 := by
  rw [BS_size, hD]; unfold snd47; split
  ·rw [List.length_drop]; omega
  ·simp
 clear hA hD hl hfn hAs hDs hsl;by_cases hsl : indexByte l 47 < 0
 ·have hc2 : Hid (cut l [47] = (A, [], false)) := by unfold Hid; rw [HC.out, if_pos hsl, HFN.out hsl]
  have HQ2 : Hid (rightQ l = rightI A) := by unfold Hid; rw [HQ.out, decide_eq_true hsl]; simp
  clear hsl;go_enter Tryz.func66, Tryz.ntmps66;go_wp2_with fail;refine (HCUT.out.mono fun _ _ h => h.ret).mono ?_;rintro e w1 ⟨_, rfl, rfl, hb1⟩;rw [hc2.out];go_wp2_with fail;refine (HCA.out hsA _).mono ?_;rintro e w2 ⟨_, rfl, rfl, rfl⟩;rw [<- HQ2.out];rcases Bool.eq_false_or_eq_true (rightQ l) with h | h
  ·have HE := hid (err_ok h)
   rw [h, show errNum true = 0 from rfl];clear h;go_wp2_with fail;go_ret;exact ⟨_, rfl, congrArg (Value.int .i64) HE.out, hb1⟩
  ·have HE := hid (err_bad h)
   rw [h, show errNum false = 2 from rfl];clear h;go_wp2_with fail;go_ret;exact ⟨_, rfl, congrArg (Value.int .i64) HE.out, hb1⟩
 ·have hc2 : Hid (cut l [47] = (A, D, true)) := by unfold Hid; rw [HC.out, if_neg hsl]
  have HQ2 : Hid (rightQ l = (rightI A && (rightI D && fitB (valI A) (valI D)))) := by unfold Hid; rw [HQ.out, decide_eq_false hsl]; simp
  clear hsl;go_enter Tryz.func66, Tryz.ntmps66;go_wp2_with fail;refine (HCUT.out.mono fun _ _ h => h.ret).mono ?_;rintro e w1 ⟨_, rfl, rfl, hb1⟩;rw [hc2.out];go_wp2_with fail;refine (HCA.out hsA _).mono ?_;rintro e w2 ⟨_, rfl, rfl, rfl⟩;rcases Bool.eq_false_or_eq_true (rightI A) with hra | hra
  ·rw [hra, show errNum true = 0 from rfl]
   go_wp2_with fail;refine (HCD.out hsD _).mono ?_;rintro e w2 ⟨_, rfl, rfl, rfl⟩;rcases Bool.eq_false_or_eq_true (rightI D) with hrd | hrd
   ·rw [hrd, show errNum true = 0 from rfl]
    obtain ⟨a, ha⟩ : ∃ a, a = valI A := ⟨_, rfl⟩;obtain ⟨b, hb⟩ : ∃ b, b = valI D := ⟨_, rfl⟩;obtain ⟨ha1, ha2⟩ := rightI_val hra;obtain ⟨hb2, hb3⟩ := rightI_val hrd;have HQ3 : Hid (rightQ l = fitB a b) := by unfold Hid; rw [HQ2.out, hra, hrd, ha, hb]; rfl
    have eA : BS A = IS a := by rw [ha1, ha]; rfl
    have eD : BS D = IS b := by rw [hb2, hb]; rfl
    rw [eA] at ha2 ⊢;rw [eD] at hb3 ⊢;clear ha hb ha1 hb2 eA eD hra hrd HCA HCD HQ HQ2 HC hc2 HCUT HFN hsA hsD;have HCMP : ∀ w, Hid (Calls Tryz.prog 83 #[.string (IS b), .string ⟨#[49]⟩] w (Same (fun v => v = .int .i64 (cmpZ b 1)) w)) := fun w => by
     have h := compare_any b 1 (by omega) (by rw [IS_one]; decide) w;rw [IS_one] at h; exact h
    by_cases hb1' : 1 < b
    ·have HZ : Hid (cmpZ b 1 = 1) := cmpZ_gt hb1'
     have h8 := IS_eq48 a;by_cases ha0 : a = 0
     ·rw [decide_eq_true ha0] at h8
      have HE := hid (err_bad (l := l) (by rw [HQ3.out]; unfold fitB; rw [decide_eq_true ha0]; simp));clear hb1' ha0;go_wp2_with fail;refine (HCMP _).out.mono ?_;rintro e w2 ⟨_, rfl, rfl, rfl⟩;rw [HZ.out];go_wp2_with fail;go_ret;exact ⟨_, rfl, congrArg (Value.int .i64) HE.out, hb1⟩
     ·rw [decide_eq_false ha0] at h8
      have hgb := hg.below hb1;have HG := hid (gcd_any a b (by omega) (by omega) _ hgb);obtain ⟨g, hgg⟩ : ∃ g : Int, g = (Int.gcd a b : Nat) := ⟨_, rfl⟩;rw [<- hgg] at HG;have h9 := IS_eq49 g;have h9' := IS_ne49 g;by_cases hg1 : g = 1
      ·rw [decide_eq_true hg1] at h9 h9'
       rw [Bool.not_true] at h9';have HE := hid (err_ok (l := l) (by rw [HQ3.out]; unfold fitB; rw [decide_eq_true hb1', decide_eq_false ha0, decide_eq_true (by omega)]; rfl));clear hb1' ha0 hg1 hgg;go_wp2_with fail;refine (HCMP _).out.mono ?_;rintro e w2 ⟨_, rfl, rfl, rfl⟩;rw [HZ.out];go_wp2_with fail;refine HG.out.mono ?_;rintro e w3 ⟨_, rfl, rfl, hb4⟩;go_wp2_with fail;go_ret;exact ⟨_, rfl, congrArg (Value.int .i64) HE.out, hb1.trans (hb4.mono hb1.size)⟩
      ·rw [decide_eq_false hg1] at h9 h9'
       rw [Bool.not_false] at h9';have HE := hid (err_bad (l := l) (by rw [HQ3.out]; unfold fitB; rw [decide_eq_false (p := Int.gcd a b = 1) (by omega)]; simp));clear hb1' ha0 hg1 hgg;go_wp2_with fail;refine (HCMP _).out.mono ?_;rintro e w2 ⟨_, rfl, rfl, rfl⟩;rw [HZ.out];go_wp2_with fail;refine HG.out.mono ?_;rintro e w3 ⟨_, rfl, rfl, hb4⟩;go_wp2_with fail;go_ret;exact ⟨_, rfl, congrArg (Value.int .i64) HE.out, hb1.trans (hb4.mono hb1.size)⟩
    ·have HZ : ∃ z, z <= 0 /\ Hid (cmpZ b 1 = z) := ⟨cmpZ b 1, by unfold cmpZ; rw [if_neg hb1']; split <;> omega, rfl⟩
     obtain ⟨z, hz, HZ⟩ := HZ;have HE := hid (err_bad (l := l) (by rw [HQ3.out]; unfold fitB; rw [decide_eq_false hb1']; rfl));clear hb1';go_wp2_with fail;refine (HCMP _).out.mono ?_;rintro e w2 ⟨_, rfl, rfl, rfl⟩;rw [HZ.out];go_wp2_with fail;go_ret;exact ⟨_, rfl, congrArg (Value.int .i64) HE.out, hb1⟩
   ·have HF : Hid (rightQ l = false) := by unfold Hid; rw [HQ2.out, hrd]; simp
    rw [hrd, show errNum false = 2 from rfl];have HE := hid (err_bad HF.out);go_wp2_with fail;go_ret;exact ⟨_, rfl, congrArg (Value.int .i64) HE.out, hb1⟩
  ·have HF : Hid (rightQ l = false) := by unfold Hid; rw [HQ2.out, hra]; rfl
   rw [hra, show errNum false = 2 from rfl];have HE := hid (err_bad HF.out);go_wp2_with fail;go_ret;exact ⟨_, rfl, congrArg (Value.int .i64) HE.out, hb1⟩
theorem rightI_of {n : Int} (h : n.natAbs < 10 ^ 200) : rightI (itoa n) = true := by
 unfold rightI;rw [canonB_itoa, itoa_trim, Bool.true_and];exact decide_eq_true ((len_decDigits_le _ 200 (by omega)).2 h)
theorem rightQ_RL {q : Rat} (h : Sz 200 q) : rightQ (RL q) = true := by
 unfold rightQ;rw [fst47_RL, rightI_of h.1, Bool.true_and, snd47_RL];by_cases hd : q.den = 1
 ·rw [RL_idx_one hd]; rfl
 ·have e : decDigits q.den = itoa (q.den : Int) := (itoa_nat q.den).symm
  rw [e, valI_itoa, valI_itoa, rightI_of (n := (q.den : Int)) h.2, Bool.true_and];have hp := q.den_pos;have hg : Int.gcd q.num (q.den : Int) = 1 := q.reduced;have hn : q.num ≠ 0 := by
   intro e0;rw [e0] at hg;have : Int.gcd 0 (q.den : Int) = q.den := by simp
   omega
  unfold fitB;rw [decide_eq_true (by omega : (1 : Int) < (q.den : Int)), decide_eq_false hn, decide_eq_true hg];simp
theorem RdS.open {w : World} {v : Value} {l : List ByteArray} (h : RdS w v l) : ∃ p c, v = .slice p l.length c /\ l.length <= c /\ c <= maxLen /\
 (l ≠ [] -> ∃ b off, p = some ⟨b, off, none⟩ /\ b < w.heap.size /\ ∀ (i : Nat) (hi : i < l.length), w.cell? ⟨b, off + i, none⟩ = some (.string l[i])) := by
 obtain ⟨p, c, hv, h1, h2, h3, h4⟩ := h;refine ⟨p, c, hv, h1, h2, fun hne => ?_⟩;obtain ⟨b, off, hp, hc⟩ := h4 (by simpa using hne);have hcell : ∀ (i : Nat) (hi : i < l.length), w.cell? ⟨b, off + i, none⟩ = some (.string l[i]) := fun i hi => hc i _ (by simp [hi])
 have h0 : 0 < l.length := List.length_pos_iff.2 hne;exact ⟨b, off, hp, World.block_lt_of_cell? w _ (hcell 0 h0), hcell⟩
def allQ (l : List ByteArray) : Bool := l.all fun s => rightQ s.data.toList
theorem allQ_step (l : List ByteArray) (i : Nat) (h : i < l.length) : allQ (l.drop i) = (rightQ l[i].data.toList && allQ (l.drop (i + 1))) := by
 rw [List.drop_eq_getElem_cons h]; rfl
theorem numbers_any (l : List ByteArray) (hlen : l.length <= 1000000) (hl : ∀ s ∈ l, s.size < 1000000000) (v : Value) (w : World) (hr : RdS w v l) (hg : Good w) :
 Calls Tryz.prog 164 #[v] w (Ret (fun r _ => r = .int .i64 (errNum (allQ l))) w) := by
 obtain ⟨p, c, rfl, hlc, hcm, hr'⟩ := hr.open;clear hr;have HL := hid hl;have HR := hid hr';clear hl hr';go_enter Tryz.func164, Tryz.ntmps164;go_wp2_with fail;go_loopw [8] (fun t8 wr => ∃ (i : Nat), t8 = .int .i64 i /\ i <= l.length /\ Hid (allQ l = allQ (l.drop i)) /\ Below w.heap.size w wr) (fun t8 _ => l.length - (RowKit.intOf t8).toNat)
 case atStart => exact ⟨0, rfl, Nat.zero_le _, rfl, Below.refl _ _⟩
 case round =>
  obtain ⟨i, rfl, hi, HS, hbl⟩ := hrel;rcases Nat.lt_or_ge i l.length with h | h
  ·obtain ⟨b, off, rfl, hbs, hcell⟩ := HR.out (by intro e; rw [e] at h; simp at h)
   have hc : wr.cell? ⟨b, off + i, none⟩ = some (.string l[i]) := (zcq hbl hbs (hcell i h) :);have hzx := HL.out l[i] (List.getElem_mem h);have hst := HS.out.trans (allQ_step l i h);obtain ⟨x, hx⟩ : ∃ x, x = l[i] := ⟨_, rfl⟩;rw [<- hx] at hc hzx hst;have HST := hid hst;have hgr := hg.below hbl;clear hx hst hcell HS;go_wp2_with fail;refine (checkQ_any x hzx _ hgr).mono ?_;rintro e w2 ⟨_, rfl, rfl, hb2⟩;have hb3 := hbl.trans (hb2.mono hbl.size);clear hb2 hgr;rcases Bool.eq_false_or_eq_true (rightQ x.data.toList) with hq | hq
   ·have HN : Hid (allQ l = allQ (l.drop (i + 1))) := by unfold Hid; rw [HST.out, hq]; rfl
    rw [hq, show errNum true = 0 from rfl];clear hq HST;go_wp2_with fail;go_roundw
    case rel => exact ⟨i + 1, by go_num, h, HN, hb3⟩
    case measure => simp [RowKit.intOf]; omega
   ·have HN : Hid (2 = errNum (allQ l)) := by unfold Hid; rw [HST.out, hq]; rfl
    rw [hq, show errNum false = 2 from rfl];clear hq HST;go_wp2_with fail;go_ret;exact ⟨_, rfl, congrArg (Value.int .i64) HN.out, hb3⟩
  ·have HF : Hid (0 = errNum (allQ l)) := by unfold Hid; rw [HS.out, List.drop_of_length_le h]; rfl
   clear HS;go_wp2_with fail;go_ret;exact ⟨_, rfl, congrArg (Value.int .i64) HF.out, hbl⟩
theorem RdS.fresh (w : World) (xs : List ByteArray) (ty : Nat) (cs : Array Value) (hcs : cs.toList = xs.map fun x => Value.string x) (hl : xs.length <= 1000) (n : Nat) (hn : n = xs.length) (g : Nat) (hgs : g = w.heap.size) :
 RdS (w.alloc (Obj.cells cs ty)) (.slice (some ⟨g, 0, none⟩) n n) xs := by
 subst hn hgs;refine ⟨some ⟨w.heap.size, 0, none⟩, xs.length, rfl, Nat.le_refl _, Nat.le_trans hl (by decide), by simp, fun _ => ⟨w.heap.size, 0, rfl, fun i x hx => ?_⟩⟩;rw [World.cell?_alloc_at _ _ _ _ rfl];rw [<- hcs] at hx;simpa using hx
theorem checkPoint_any (x y : ByteArray) (hx : x.size < 1000000000) (hy : y.size < 1000000000) (w : World) (hg : Good w) :
 Calls Tryz.prog 123 #[.agg #[.string x, .string y]] w (Ret (fun r _ => r = .int .i64 (errNum (allQ [x, y]))) w) := by
 go_enter Tryz.func123, Tryz.ntmps123;go_wp2_with fail;have hb0 : Below w.heap.size w ((w.alloc (Obj.cells #[Value.string x, Value.string y] 63)).alloc (Obj.cells #[Value.string x, Value.string y] 57)) :=
  ((Below.refl _ _).alloc (Nat.le_refl _) _).alloc (by simp) _
 refine (numbers_any [x, y] (by simp) (by simp; exact ⟨hx, hy⟩) _ _ (RdS.fresh _ _ _ _ rfl (by simp) _ rfl _ (by simp)) ((hg.alloc _).alloc _)).mono ?_;rintro e w2 ⟨_, rfl, rfl, hb2⟩;go_wp2_with fail;go_ret;exact ⟨_, rfl, rfl, hb0.trans (hb2.mono hb0.size)⟩
theorem checkVector_any (x y z : ByteArray) (hx : x.size < 1000000000) (hy : y.size < 1000000000) (hz : z.size < 1000000000) (w : World) (hg : Good w) :
 Calls Tryz.prog 126 #[.agg #[.string x, .string y, .string z]] w (Ret (fun r _ => r = .int .i64 (errNum (allQ [x, y, z]))) w) := by
 go_enter Tryz.func126, Tryz.ntmps126;go_wp2_with fail;have hb0 : Below w.heap.size w ((w.alloc (Obj.cells #[Value.string x, Value.string y, Value.string z] 70)).alloc (Obj.cells #[Value.string x, Value.string y, Value.string z] 57)) :=
  ((Below.refl _ _).alloc (Nat.le_refl _) _).alloc (by simp) _
 refine (numbers_any [x, y, z] (by simp) (by simp; exact ⟨hx, hy, hz⟩) _ _ (RdS.fresh _ _ _ _ rfl (by simp) _ rfl _ (by simp)) ((hg.alloc _).alloc _)).mono ?_;rintro e w2 ⟨_, rfl, rfl, hb2⟩;go_wp2_with fail;go_ret;exact ⟨_, rfl, rfl, hb0.trans (hb2.mono hb0.size)⟩
end Go.Proofs.YtgdpoankaojklaaGreatDoor
