/- Klipperef02 and rational: parts, small, lowest, Fraction. -/
import Derived.Test.YtdhcliekejiegaaGreatDoorC1
import Derived.Lib.IndexBytes
import Derived.BigRegion
import Derived.Test.YtdhcliekejiegaaGreatDoorI1
/- Parts of rational numbers: klipperef02.Parts, rational.Parts; join. -/
namespace Go.Proofs.YtdhcliekejiegaaGreatDoor
open Go.RowKit Go.Lib

/-- What stands ahead of the slash, and behind it ("1" where there is none). -/
def fst47 (l : List UInt8) : List UInt8 := if 0 ≤ indexByte l 47 then l.take (indexByte l 47).toNat else l
def snd47 (l : List UInt8) : List UInt8 := if 0 ≤ indexByte l 47 then l.drop ((indexByte l 47).toNat + 1) else [49]

theorem fst47_RL (q : Rat) : fst47 (RL q) = itoa q.num := by
  unfold fst47
  by_cases h : q.den = 1
  · rw [RL_idx_one h, if_neg (by omega), RL_one_den h]
  · rw [RL_idx_den h, if_pos (by omega), RL_den h]; simp

theorem snd47_RL (q : Rat) : snd47 (RL q) = decDigits q.den := by
  unfold snd47
  by_cases h : q.den = 1
  · rw [RL_idx_one h, if_neg (by omega), h, decDigits_one (i := 1) (by omega)]; rfl
  · rw [RL_idx_den h, if_pos (by omega), RL_den h]
    rw [show ((itoa q.num).length : Int).toNat + 1 = (itoa q.num).length + 1 by omega]
    simp

theorem den_IS (q : Rat) : BS (decDigits q.den) = IS (q.den : Int) := by unfold IS; rw [itoa_nat]; rfl

set_option maxHeartbeats 400000 in
theorem parts_rat (q : Rat) (hs : (RS q).size < 1000000000) (w : World) (hg : Good w) :
    Calls Tryz.prog 114 #[.string (RS q)] w (Drawn (fun v => v = .tuple #[.string (IS q.num), .string (IS (q.den : Int))]) w) := by
  have hc : Hid (cut (RS q).data.toList [47] = if q.den = 1 then (RL q, [], false) else (itoa q.num, decDigits q.den, true)) := by
    unfold Hid cut
    rw [RS_list, index_one]
    by_cases h : q.den = 1
    · rw [RL_idx_one h, if_neg (by omega), if_pos h]
    · have e := fst47_RL q
      have e2 := snd47_RL q
      unfold fst47 at e
      unfold snd47 at e2
      rw [RL_idx_den h] at e e2 ⊢
      rw [if_pos (by omega)] at e e2 ⊢
      rw [if_neg h, e]
      rw [← e2]; rfl
  by_cases hd : q.den = 1
  · have H1 : Hid (BS (RL q) = IS q.num ∧ (⟨#[49]⟩ : ByteArray) = IS (q.den : Int)) := by
      unfold Hid
      rw [RL_one_den hd, hd]
      exact ⟨rfl, by rw [show ((1 : Nat) : Int) = 1 from rfl, IS_one]⟩
    have hc2 : Hid (cut (RS q).data.toList [47] = (RL q, [], false)) := by unfold Hid; rw [hc.out, if_pos hd]
    clear hd
    go_enter Tryz.func114, Tryz.ntmps114
    go_wp2_with fail
    refine (cut_any (RS q) hs _ hg).mono ?_
    rintro e w1 ⟨_, rfl, rfl, j, rfl⟩
    rw [hc2.out]
    go_wp2_with fail
    go_ret2
    exact ⟨_, rfl, tup2s H1.out.1 H1.out.2, j, rfl⟩
  · have H1 : Hid (BS (itoa q.num) = IS q.num ∧ BS (decDigits q.den) = IS (q.den : Int)) := ⟨rfl, den_IS q⟩
    have hc2 : Hid (cut (RS q).data.toList [47] = (itoa q.num, decDigits q.den, true)) := by unfold Hid; rw [hc.out, if_neg hd]
    clear hd
    go_enter Tryz.func114, Tryz.ntmps114
    go_wp2_with fail
    refine (cut_any (RS q) hs _ hg).mono ?_
    rintro e w1 ⟨_, rfl, rfl, j, rfl⟩
    rw [hc2.out]
    go_wp2_with fail
    go_ret2
    exact ⟨_, rfl, tup2s H1.out.1 H1.out.2, j, rfl⟩

end Go.Proofs.YtdhcliekejiegaaGreatDoor

/- Facts on the text of a rational number, place by place. -/
namespace Go.Proofs.YtdhcliekejiegaaGreatDoor
open Go.RowKit Go.Lib

/-- Where the parts of a canonical number's text lie. -/
structure Lies (q : Rat) (s : ByteArray) (b0 n1 : Nat) : Prop where
  b1 : b0 ≤ 1
  neg : b0 = 1 ↔ q.num < 0
  lt : b0 < n1
  le : n1 ≤ s.size
  sign : (h : 0 < s.size) → (s[0].toNat = 45 ↔ b0 = 1)
  dig : ∀ (i : Nat) (h : i < s.size), b0 ≤ i → i < n1 → isDig s[i]
  slash : (h : n1 < s.size) → s[n1] = 47
  dig2 : ∀ (i : Nat) (h : i < s.size), n1 < i → isDig s[i]
  num : dsl s b0 n1 = q.num.natAbs
  den1 : n1 = s.size → q.den = 1
  den : n1 < s.size → n1 + 1 < s.size ∧ dsl s (n1 + 1) s.size = q.den

theorem lies_of (q : Rat) : ∃ b0 n1, Lies q (RS q) b0 n1 := by
  obtain ⟨P, hP⟩ : ∃ P : List UInt8, P = if q.num < 0 then [45] else [] := ⟨_, rfl⟩
  obtain ⟨D, hD⟩ : ∃ D, D = decDigits q.num.natAbs := ⟨_, rfl⟩
  obtain ⟨T, hT⟩ : ∃ T : List UInt8, T = if q.den = 1 then [] else 47 :: decDigits q.den := ⟨_, rfl⟩
  have hl : (RS q).data.toList = P ++ (D ++ T) := by
    rw [RS_list, RL, itoa_natAbs, hP, hT, hD]
    split <;> split <;> simp
  have hDd : ∀ c ∈ D, isDig c := by rw [hD]; exact decDigits_dig _
  have hDn : 0 < D.length := by rw [hD]; exact List.length_pos_iff.2 (decDigits_ne_nil _)
  have hsz : (RS q).size = P.length + (D.length + T.length) := by
    have : (RS q).data.toList.length = (RS q).size := by rw [Array.length_toList]; rfl
    rw [← this, hl]; simp
  have hg : ∀ (i : Nat) (h : i < (RS q).size), (RS q)[i] = (P ++ (D ++ T))[i]'(by rw [← hl, Array.length_toList]; exact h) := by
    intro i h
    have h2 : i < (RS q).data.toList.length := by rw [Array.length_toList]; exact h
    have e : (RS q)[i] = (RS q).data.toList[i]'h2 := by rfl
    rw [e]
    simp only [hl]
  have hPl : P.length ≤ 1 ∧ (P.length = 1 ↔ q.num < 0) := by
    rw [hP]; split <;> simp_all
  refine ⟨P.length, P.length + D.length, ⟨hPl.1, hPl.2, by omega, by omega, ?_, ?_, ?_, ?_, ?_, ?_, ?_⟩⟩
  · intro h
    rw [hg 0 h]
    by_cases hn : q.num < 0
    · have hp1 : P = [45] := by rw [hP, if_pos hn]
      subst hp1
      simp
    · have hp1 : P = [] := by rw [hP, if_neg hn]
      subst hp1
      simp only [List.nil_append, List.length_nil]
      rw [List.getElem_append_left hDn]
      have := hDd _ (List.getElem_mem hDn)
      unfold isDig at this
      constructor
      · intro h; omega
      · intro h; omega
  · intro i h h1 h2
    rw [hg i h, List.getElem_append_right h1, List.getElem_append_left (by omega)]
    exact hDd _ (List.getElem_mem _)
  · intro h
    rw [hg _ h, List.getElem_append_right (by omega), List.getElem_append_right (by omega)]
    have hTn : 0 < T.length := by omega
    have hd : q.den ≠ 1 := by
      intro e; rw [hT, if_pos e] at hTn; simp at hTn
    have e : P.length + D.length - P.length - D.length = 0 := by omega
    simp only [e]
    simp only [hT, if_neg hd, List.getElem_cons_zero]
  · intro i h h1
    rw [hg i h, List.getElem_append_right (by omega), List.getElem_append_right (by omega)]
    have hd : q.den ≠ 1 := by
      intro e
      have : T.length = 0 := by rw [hT, if_pos e]; rfl
      omega
    obtain ⟨k, hk⟩ : ∃ k, i - P.length - D.length = k + 1 := ⟨i - P.length - D.length - 1, by omega⟩
    simp only [hk]
    have hTT : T = 47 :: decDigits q.den := by rw [hT, if_neg hd]
    have hkl : k < (decDigits q.den).length := by
      have : T.length = (decDigits q.den).length + 1 := by rw [hTT]; simp
      omega
    have : T[k + 1]'(by rw [hTT]; simp; exact hkl) = (decDigits q.den)[k] := by simp only [hTT, List.getElem_cons_succ]
    rw [this]
    exact decDigits_dig _ _ (List.getElem_mem _)
  · unfold dsl
    rw [hl, ← List.append_assoc, List.take_append_of_le_length (by simp), List.take_of_length_le (by simp), List.drop_append_of_le_length (by omega), List.drop_eq_nil_of_le (by omega), List.nil_append, hD, dval_decDigits]
  · intro h
    have hT0 : T.length = 0 := by omega
    refine Classical.byContradiction fun hd => ?_
    rw [hT, if_neg hd] at hT0
    simp at hT0
  · intro h
    have hTn : 0 < T.length := by omega
    have hd : q.den ≠ 1 := by
      intro e; rw [hT, if_pos e] at hTn; simp at hTn
    have hTT : T = 47 :: decDigits q.den := by rw [hT, if_neg hd]
    have hTl : T.length = (decDigits q.den).length + 1 := by rw [hTT]; simp
    have hdn : 0 < (decDigits q.den).length := List.length_pos_iff.2 (decDigits_ne_nil _)
    refine ⟨by omega, ?_⟩
    unfold dsl
    rw [List.take_of_length_le (by rw [Array.length_toList]; exact Nat.le_refl _), hl, hTT, ← List.append_assoc,
      show P.length + D.length + 1 = (P ++ D).length + 1 by simp, List.drop_append]
    have e9 : List.drop (P.length + D.length + 1) (P ++ D) = [] := List.drop_eq_nil_of_le (by simp)
    simp [e9, dval_decDigits]

/-- Nine digits at most. -/
theorem dsl_lt9 (s : ByteArray) (a b : Nat) (hd : ∀ (i : Nat) (h : i < s.size), a ≤ i → i < b → isDig s[i]) (hb : b ≤ a + 9) : dsl s a b < 1000000000 := by
  unfold dsl
  refine Nat.lt_of_lt_of_le (dval_lt _ fun c hc => ?_) ?_
  · obtain ⟨i, hi, rfl⟩ := List.getElem_of_mem hc
    rw [List.length_drop, List.length_take, Array.length_toList] at hi
    rw [List.getElem_drop, List.getElem_take]
    have h2 : a + i < s.size := by have : s.data.size = s.size := rfl; omega
    exact hd (a + i) h2 (by omega) (by omega)
  · show 10 ^ _ ≤ 10 ^ 9
    refine Nat.pow_le_pow_right (by decide) ?_
    rw [List.length_drop, List.length_take]; omega

end Go.Proofs.YtdhcliekejiegaaGreatDoor

/- The walk over rational.quick. -/
namespace Go.Proofs.YtdhcliekejiegaaGreatDoor
open Go.RowKit Go.Lib

/-- Numerator and denominator as ints, if they are short. -/
def QuickIs (q : Rat) (v : Value) : Prop := ∃ (x y : Int) (one : Bool), v = .tuple #[.int .i64 x, .int .i64 y, .bool one] ∧
  (one = true → x = q.num ∧ y = (q.den : Int) ∧ (-1000000000 < x ∧ x < 1000000000) ∧ (0 < y ∧ y < 1000000000))

theorem quick_end {q : Rat} {x y : Int} {v : Value} (h : v = .tuple #[.int .i64 x, .int .i64 y, .bool true]) (hx : x = q.num) (hy : y = (q.den : Int)) (h1 : -1000000000 < x ∧ x < 1000000000) (h2 : y < 1000000000) : QuickIs q v :=
  ⟨x, y, true, h, fun _ => ⟨hx, hy, h1, by have := q.den_pos; omega, h2⟩⟩

theorem quick_out {q : Rat} {v : Value} (h : v = .tuple #[.int .i64 0, .int .i64 0, .bool false]) : QuickIs q v :=
  ⟨0, 0, false, h, fun h => by cases h⟩

set_option maxHeartbeats 1000000 in
set_option maxRecDepth 100000 in
theorem quickQ_any (q : Rat) (hs : (RS q).size ≤ 1000000000) (w : World) :
    Calls Tryz.prog 112 #[.string (RS q)] w (Same (QuickIs q) w) := by
  obtain ⟨b0, n1, L⟩ := lies_of q
  generalize RS q = s at *
  have hs0 : 0 < s.size := Nat.lt_of_lt_of_le (Nat.lt_of_le_of_lt (Nat.zero_le _) L.lt) L.le
  have hb1 := L.b1
  have hlt := L.lt
  have hle := L.le
  obtain ⟨c0, hc0⟩ : ∃ c0 : Nat, s[0].toNat = c0 := ⟨_, rfl⟩
  have hc45 : c0 = 45 ↔ b0 = 1 := by rw [← hc0]; exact L.sign hs0
  have HL := Lib.hid L
  obtain ⟨neg, hneg⟩ : ∃ neg, neg = decide (q.num < 0) := ⟨_, rfl⟩
  have HNEG := Lib.hid hneg
  have hnb : neg = decide (b0 = 1) := by rw [hneg]; simp only [L.neg]
  clear L hneg
  rcases (by omega : b0 = 0 ∨ b0 = 1) with rfl | rfl
  · have t0 : ((c0 : Int) == 45) = false := by rw [beq_eq_false_iff_ne]; omega
    have hn : neg = false := hnb
    subst hn
    clear hc45 hnb
    go_enter Tryz.func112, Tryz.ntmps112
    go_wp2_with fail
    go_loop [2, 3, 5] (fun t2 t3 t5 => ∃ (i : Nat) (nz : Int), t3 = .int .i64 0 ∧ 0 ≤ i ∧ i ≤ n1 ∧ i ≤ 0 + 9 ∧ t5 = .int .i64 i ∧ t2 = .int .i64 nz ∧ Hid (nz = (dsl s 0 i : Nat)) ∧ 0 ≤ nz ∧ nz < 1000000000) (fun _ _ t5 => s.size - (RowKit.intOf t5).toNat)
    case atStart => exact ⟨0, 0, rfl, Nat.le_refl _, by omega, by omega, rfl, rfl, by unfold Hid; rw [dsl_self]; rfl, by omega, by omega⟩
    case round =>
      obtain ⟨i, nz, rfl, hi0, hi1, hi2, rfl, rfl, HN, hn0, hn1⟩ := hrel
      rcases Nat.lt_or_ge i n1 with hin | hin
      · have his : i < s.size := by omega
        have hd : isDig s[i] := HL.out.dig i his hi0 hin
        unfold isDig at hd
        have hst : Hid (dsl s 0 (i + 1) = 10 * dsl s 0 i + (s[i].toNat - 48)) := dsl_step s 0 i his hi0
        obtain ⟨ck, hck⟩ : ∃ ck : Nat, s[i].toNat = ck := ⟨_, rfl⟩
        rw [hck] at hd
        have HCK := Lib.hid hck
        have t1 : ((ck : Int) != 47) = true := by rw [bne_iff_ne]; omega
        have t1' : ((ck : Int) == 47) = false := by rw [beq_eq_false_iff_ne]; omega
        by_cases h9 : i = 0 + 9
        · have t2 : ((i : Int) == 9) = true := by rw [beq_iff_eq]; omega
          clear hst h9
          go_wp2_with fail
          go_ret3
          exact ⟨_, rfl, quick_out rfl, rfl⟩
        · have t2 : ((i : Int) == 9) = false := by rw [beq_eq_false_iff_ne]; omega
          have h9' : i < 0 + 9 := by omega
          have HX : Hid (10 * nz + ((ck : Int) - 48) = ((dsl s 0 (i + 1) : Nat) : Int)) := by
            unfold Hid; rw [hst.out, HN.out, HCK.out]; omega
          have hx : Hid (0 ≤ 10 * nz + ((ck : Int) - 48) ∧ 10 * nz + ((ck : Int) - 48) < 1000000000) := by
            have := dsl_lt9 s 0 (i + 1) (fun k hk h1 h2 => HL.out.dig k hk h1 (by omega)) (by omega)
            unfold Hid; rw [HX.out]; omega
          clear hst h9
          go_wp2_with fail
          go_round
          case rel => exact ⟨i + 1, _, rfl, by omega, by omega, by omega, by go_num, rfl, HX, hx.out.1, hx.out.2⟩
          case measure => simp [RowKit.intOf]; omega
      · have hie : i = n1 := by omega
        have HNV : Hid (nz = (q.num.natAbs : Nat)) := by rw [hie] at HN; have := HL.out.num; unfold Hid; rw [HN.out, this]
        subst hie
        have hv : Hid (nz = q.num) := by
          unfold Hid
          have := of_decide_eq_false HNEG.out.symm
          rw [HNV.out]; omega
        have hvb : -1000000000 < nz ∧ nz < 1000000000 := by omega
        clear HN
        rcases Nat.lt_or_ge i s.size with hls | hge
        · have hsl := HL.out.slash hls
          have hden := HL.out.den hls
          obtain ⟨ck, hck⟩ : ∃ ck : Nat, s[i].toNat = ck := ⟨_, rfl⟩
          have hk47 : ck = 47 := by rw [← hck, hsl]; rfl
          have t1 : ((ck : Int) != 47) = false := by rw [bne_eq_false_iff_eq]; omega
          have t1' : ((ck : Int) == 47) = true := by rw [beq_iff_eq]; omega
          have t3 : ((i : Int) == (s.size : Int)) = false := by rw [beq_eq_false_iff_ne]; omega
          have hi2 : i + 1 < s.size := hden.1
          have HDEN := Lib.hid hden.2
          clear hk47 hsl hden
          go_wp2_with fail
          go_loop [2, 3, 5] (fun t2 t3 t5 => ∃ (k : Nat) (dz : Int), t2 = .int .i64 (nz) ∧ i + 1 ≤ k ∧ k ≤ s.size ∧ k ≤ i + 1 + 9 ∧ t5 = .int .i64 k ∧ t3 = .int .i64 dz ∧ Hid (dz = (dsl s (i + 1) k : Nat)) ∧ 0 ≤ dz ∧ dz < 1000000000) (fun _ _ t5 => s.size - (RowKit.intOf t5).toNat)
          case atStart => exact ⟨i + 1, 0, rfl, Nat.le_refl _, by omega, by omega, by go_num, rfl, by unfold Hid; rw [dsl_self]; rfl, by omega, by omega⟩
          case round =>
            obtain ⟨k, dz, rfl, hk0, hk1, hk2, rfl, rfl, HN, hn0, hn1⟩ := hrel
            rcases Nat.lt_or_ge k s.size with hks | hks
            · have hd : isDig s[k] := HL.out.dig2 k hks (by omega)
              unfold isDig at hd
              have hst : Hid (dsl s (i + 1) (k + 1) = 10 * dsl s (i + 1) k + (s[k].toNat - 48)) := dsl_step s (i + 1) k hks hk0
              obtain ⟨cd, hcd⟩ : ∃ cd : Nat, s[k].toNat = cd := ⟨_, rfl⟩
              rw [hcd] at hd
              have HCK := Lib.hid hcd
              by_cases h9 : k = i + 1 + 9
              · have t2 : ((k : Int) - ((i : Int) + 1) == 9) = true := by rw [beq_iff_eq]; omega
                clear hst h9
                go_wp2_with fail
                go_ret3
                exact ⟨_, rfl, quick_out rfl, rfl⟩
              · have t2 : ((k : Int) - ((i : Int) + 1) == 9) = false := by rw [beq_eq_false_iff_ne]; omega
                have h9' : k < i + 1 + 9 := by omega
                have HX : Hid (10 * dz + ((cd : Int) - 48) = ((dsl s (i + 1) (k + 1) : Nat) : Int)) := by
                  unfold Hid; rw [hst.out, HN.out, HCK.out]; omega
                have hx : Hid (0 ≤ 10 * dz + ((cd : Int) - 48) ∧ 10 * dz + ((cd : Int) - 48) < 1000000000) := by
                  have := dsl_lt9 s (i + 1) (k + 1) (fun j hj h1 h2 => HL.out.dig2 j hj (by omega)) (by omega)
                  unfold Hid; rw [HX.out]; omega
                clear hst h9
                go_wp2_with fail
                go_round
                case rel => exact ⟨k + 1, _, rfl, by omega, by omega, by omega, by go_num, rfl, HX, hx.out.1, hx.out.2⟩
                case measure => simp [RowKit.intOf]; omega
            · have hde : Hid (dz = (q.den : Int)) := by
                have : k = s.size := by omega
                unfold Hid; rw [HN.out, this, HDEN.out]
              go_wp2_with fail
              go_ret3
              exact ⟨_, rfl, quick_end rfl hv.out hde.out hvb hn1, rfl⟩
        · have hden : Hid ((1 : Int) = (q.den : Int)) := by
            have := HL.out.den1 (by omega)
            unfold Hid; rw [this]; rfl
          have t3 : ((i : Int) == (s.size : Int)) = true := by rw [beq_iff_eq]; omega
          go_wp2_with fail
          go_ret3
          exact ⟨_, rfl, quick_end rfl hv.out hden.out hvb (by omega), rfl⟩
  · have t0 : ((c0 : Int) == 45) = true := by rw [beq_iff_eq]; omega
    have hn : neg = true := hnb
    subst hn
    clear hc45 hnb
    go_enter Tryz.func112, Tryz.ntmps112
    go_wp2_with fail
    go_loop [2, 3, 5] (fun t2 t3 t5 => ∃ (i : Nat) (nz : Int), t3 = .int .i64 0 ∧ 1 ≤ i ∧ i ≤ n1 ∧ i ≤ 1 + 9 ∧ t5 = .int .i64 i ∧ t2 = .int .i64 nz ∧ Hid (nz = (dsl s 1 i : Nat)) ∧ 0 ≤ nz ∧ nz < 1000000000) (fun _ _ t5 => s.size - (RowKit.intOf t5).toNat)
    case atStart => exact ⟨1, 0, rfl, Nat.le_refl _, by omega, by omega, rfl, rfl, by unfold Hid; rw [dsl_self]; rfl, by omega, by omega⟩
    case round =>
      obtain ⟨i, nz, rfl, hi0, hi1, hi2, rfl, rfl, HN, hn0, hn1⟩ := hrel
      rcases Nat.lt_or_ge i n1 with hin | hin
      · have his : i < s.size := by omega
        have hd : isDig s[i] := HL.out.dig i his hi0 hin
        unfold isDig at hd
        have hst : Hid (dsl s 1 (i + 1) = 10 * dsl s 1 i + (s[i].toNat - 48)) := dsl_step s 1 i his hi0
        obtain ⟨ck, hck⟩ : ∃ ck : Nat, s[i].toNat = ck := ⟨_, rfl⟩
        rw [hck] at hd
        have HCK := Lib.hid hck
        have t1 : ((ck : Int) != 47) = true := by rw [bne_iff_ne]; omega
        have t1' : ((ck : Int) == 47) = false := by rw [beq_eq_false_iff_ne]; omega
        by_cases h9 : i = 1 + 9
        · have t2 : ((i : Int) - 1 == 9) = true := by rw [beq_iff_eq]; omega
          clear hst h9
          go_wp2_with fail
          go_ret3
          exact ⟨_, rfl, quick_out rfl, rfl⟩
        · have t2 : ((i : Int) - 1 == 9) = false := by rw [beq_eq_false_iff_ne]; omega
          have h9' : i < 1 + 9 := by omega
          have HX : Hid (10 * nz + ((ck : Int) - 48) = ((dsl s 1 (i + 1) : Nat) : Int)) := by
            unfold Hid; rw [hst.out, HN.out, HCK.out]; omega
          have hx : Hid (0 ≤ 10 * nz + ((ck : Int) - 48) ∧ 10 * nz + ((ck : Int) - 48) < 1000000000) := by
            have := dsl_lt9 s 1 (i + 1) (fun k hk h1 h2 => HL.out.dig k hk h1 (by omega)) (by omega)
            unfold Hid; rw [HX.out]; omega
          clear hst h9
          go_wp2_with fail
          go_round
          case rel => exact ⟨i + 1, _, rfl, by omega, by omega, by omega, by go_num, rfl, HX, hx.out.1, hx.out.2⟩
          case measure => simp [RowKit.intOf]; omega
      · have hie : i = n1 := by omega
        have HNV : Hid (nz = (q.num.natAbs : Nat)) := by rw [hie] at HN; have := HL.out.num; unfold Hid; rw [HN.out, this]
        subst hie
        have hv : Hid (-nz = q.num) := by
          unfold Hid
          have := of_decide_eq_true HNEG.out.symm
          rw [HNV.out]; omega
        have hvb : -1000000000 < -nz ∧ -nz < 1000000000 := by omega
        clear HN
        rcases Nat.lt_or_ge i s.size with hls | hge
        · have hsl := HL.out.slash hls
          have hden := HL.out.den hls
          obtain ⟨ck, hck⟩ : ∃ ck : Nat, s[i].toNat = ck := ⟨_, rfl⟩
          have hk47 : ck = 47 := by rw [← hck, hsl]; rfl
          have t1 : ((ck : Int) != 47) = false := by rw [bne_eq_false_iff_eq]; omega
          have t1' : ((ck : Int) == 47) = true := by rw [beq_iff_eq]; omega
          have t3 : ((i : Int) == (s.size : Int)) = false := by rw [beq_eq_false_iff_ne]; omega
          have hi2 : i + 1 < s.size := hden.1
          have HDEN := Lib.hid hden.2
          clear hk47 hsl hden
          go_wp2_with fail
          go_loop [2, 3, 5] (fun t2 t3 t5 => ∃ (k : Nat) (dz : Int), t2 = .int .i64 (-nz) ∧ i + 1 ≤ k ∧ k ≤ s.size ∧ k ≤ i + 1 + 9 ∧ t5 = .int .i64 k ∧ t3 = .int .i64 dz ∧ Hid (dz = (dsl s (i + 1) k : Nat)) ∧ 0 ≤ dz ∧ dz < 1000000000) (fun _ _ t5 => s.size - (RowKit.intOf t5).toNat)
          case atStart => exact ⟨i + 1, 0, rfl, Nat.le_refl _, by omega, by omega, by go_num, rfl, by unfold Hid; rw [dsl_self]; rfl, by omega, by omega⟩
          case round =>
            obtain ⟨k, dz, rfl, hk0, hk1, hk2, rfl, rfl, HN, hn0, hn1⟩ := hrel
            rcases Nat.lt_or_ge k s.size with hks | hks
            · have hd : isDig s[k] := HL.out.dig2 k hks (by omega)
              unfold isDig at hd
              have hst : Hid (dsl s (i + 1) (k + 1) = 10 * dsl s (i + 1) k + (s[k].toNat - 48)) := dsl_step s (i + 1) k hks hk0
              obtain ⟨cd, hcd⟩ : ∃ cd : Nat, s[k].toNat = cd := ⟨_, rfl⟩
              rw [hcd] at hd
              have HCK := Lib.hid hcd
              by_cases h9 : k = i + 1 + 9
              · have t2 : ((k : Int) - ((i : Int) + 1) == 9) = true := by rw [beq_iff_eq]; omega
                clear hst h9
                go_wp2_with fail
                go_ret3
                exact ⟨_, rfl, quick_out rfl, rfl⟩
              · have t2 : ((k : Int) - ((i : Int) + 1) == 9) = false := by rw [beq_eq_false_iff_ne]; omega
                have h9' : k < i + 1 + 9 := by omega
                have HX : Hid (10 * dz + ((cd : Int) - 48) = ((dsl s (i + 1) (k + 1) : Nat) : Int)) := by
                  unfold Hid; rw [hst.out, HN.out, HCK.out]; omega
                have hx : Hid (0 ≤ 10 * dz + ((cd : Int) - 48) ∧ 10 * dz + ((cd : Int) - 48) < 1000000000) := by
                  have := dsl_lt9 s (i + 1) (k + 1) (fun j hj h1 h2 => HL.out.dig2 j hj (by omega)) (by omega)
                  unfold Hid; rw [HX.out]; omega
                clear hst h9
                go_wp2_with fail
                go_round
                case rel => exact ⟨k + 1, _, rfl, by omega, by omega, by omega, by go_num, rfl, HX, hx.out.1, hx.out.2⟩
                case measure => simp [RowKit.intOf]; omega
            · have hde : Hid (dz = (q.den : Int)) := by
                have : k = s.size := by omega
                unfold Hid; rw [HN.out, this, HDEN.out]
              go_wp2_with fail
              go_ret3
              exact ⟨_, rfl, quick_end rfl hv.out hde.out hvb hn1, rfl⟩
        · have hden : Hid ((1 : Int) = (q.den : Int)) := by
            have := HL.out.den1 (by omega)
            unfold Hid; rw [this]; rfl
          have t3 : ((i : Int) == (s.size : Int)) = true := by rw [beq_iff_eq]; omega
          go_wp2_with fail
          go_ret3
          exact ⟨_, rfl, quick_end rfl hv.out hden.out hvb (by omega), rfl⟩

end Go.Proofs.YtdhcliekejiegaaGreatDoor

/- The walk over klipperef02.brief. -/
namespace Go.Proofs.YtdhcliekejiegaaGreatDoor
open Go.RowKit Go.Lib

end Go.Proofs.YtdhcliekejiegaaGreatDoor

/- The walk over rational.small. -/
namespace Go.Proofs.YtdhcliekejiegaaGreatDoor
open Go.RowKit Go.Lib

/-- The two texts of a quotient. -/
theorem RS_mkRat {n : Int} {d g : Nat} (hd : 0 < d) (hg : g = Nat.gcd n.natAbs d) {x y : Int} (hx : x = n.tdiv (g : Int)) (hy : y = ((d / g : Nat) : Int)) :
    (y = 1 → IS x = RS (mkRat n d)) ∧ (y ≠ 1 → (IS x ++ ⟨#[47]⟩) ++ IS y = RS (mkRat n d)) := by
  have h := RL_mkRat n d (by omega)
  rw [← hg] at h
  have hdv : n / (g : Int) = x := by
    rw [hx]
    have : (g : Int) ∣ n := by
      rw [hg]; exact Int.ofNat_dvd_left.2 (Nat.gcd_dvd_left _ _)
    exact (Int.tdiv_eq_ediv_of_dvd this).symm
  rw [hdv] at h
  refine ⟨fun h1 => ?_, fun h1 => ?_⟩
  · rw [if_pos (by omega)] at h
    exact ba_ext (by rw [RS_list, h, IS_list])
  · rw [if_neg (by omega)] at h
    apply ba_ext
    rw [RS_list, h, ba_append, ba_append, IS_list, IS_list, hy, itoa_nat]
    simp

theorem IS_size20 {x : Int} (h : -10000000000000000000 < x ∧ x < 10000000000000000000) : (IS x).size ≤ 20 := by
  rw [IS_size]
  exact itoa_len_le (k := 19) (by decide) (by have : (10 : Nat) ^ 19 = 10000000000000000000 := by decide
                                              omega)

set_option maxHeartbeats 1000000 in
set_option maxRecDepth 100000 in
theorem smallQ_any (n : Int) (d : Nat) (dz : Int) (hdz : dz = (d : Int)) (hd : 0 < d) (hn : -2000000000000000000 ≤ n ∧ n ≤ 2000000000000000000) (hd2 : dz ≤ 1000000000000000000) (w : World) (hg : Good w) :
    Calls Tryz.prog 113 #[.int .i64 n, .int .i64 dz] w (Ret (fun v _ => v = .string (RS (mkRat n d))) w) := by
  have hd0 : 0 < dz := by omega
  have HDZ := Lib.hid hdz
  clear hdz
  go_enter Tryz.func113, Tryz.ntmps113
  obtain ⟨G, hG⟩ : ∃ G, G = Nat.gcd n.natAbs d := ⟨_, rfl⟩
  have hGp : 0 < G := by rw [hG]; exact Nat.gcd_pos_of_pos_right _ hd
  have hGd : G ≤ d := by rw [hG]; exact Nat.le_of_dvd hd (Nat.gcd_dvd_right _ _)
  have HG := Lib.hid hG
  clear hG
  go_wp2_with fail
  go_loopw [5, 6] (fun t5 t6 wr => ∃ m k : Int, t5 = .int .i64 m ∧ t6 = .int .i64 k ∧ Hid (Nat.gcd m.natAbs k.natAbs = G) ∧ (-2000000000000000000 ≤ m ∧ m ≤ 2000000000000000000) ∧ (-2000000000000000000 ≤ k ∧ k ≤ 2000000000000000000) ∧ ∃ j, wr = w.drewN j) (fun _ t6 _ => (RowKit.intOf t6).natAbs)
  case atStart => exact ⟨n, dz, rfl, rfl, by unfold Hid; rw [HG.out, HDZ.out]; rfl, hn, by omega, 0, rfl⟩
  case round =>
    obtain ⟨m, k, rfl, rfl, HM, hm, hk, j, rfl⟩ := hrel
    by_cases hz : k = 0
    · subst hz
      have hab : m.natAbs = G := by have := HM.out; rwa [Int.natAbs_zero, Nat.gcd_zero_right] at this
      have hgj := hg.drewN j
      obtain ⟨x, hx⟩ : ∃ x, x = n.tdiv (G : Int) := ⟨_, rfl⟩
      obtain ⟨y, hy⟩ : ∃ y : Int, y = dz / (G : Int) := ⟨_, rfl⟩
      have hyn : y = ((d / G : Nat) : Int) := by rw [hy, HDZ.out]; rfl
      have HRS := Lib.hid (RS_mkRat hd HG.out hx hyn)
      have hxb := tdiv_lim (y := (G : Int)) (x := n) (M := 2000000000000000001) (by omega)
      rw [← hx] at hxb
      have hyb : 0 ≤ y ∧ y ≤ 1000000000000000000 := by
        rw [hyn]
        have h1 : d / G ≤ d := Nat.div_le_self _ _
        have := HDZ.out
        generalize d / G = z at *
        omega
      obtain ⟨gz, hgz⟩ : ∃ gz : Int, gz = (G : Int) := ⟨_, rfl⟩
      have hgz0 : 1 ≤ gz := by omega
      have hgz1 : ¬ gz = 0 := by omega
      have hgzb : (gz == 0) = false := by rw [beq_eq_false_iff_ne]; omega
      rw [← hgz] at hx hy
      have hxw := hxb
      rw [hx] at hxw
      have HX := Lib.hid hx
      have HY := Lib.hid hy
      have hsx := IS_size20 (x := x) (by omega)
      have hsy := IS_size20 (x := y) (by omega)
      rcases Int.lt_or_le m 0 with hneg | hpos
      case' inl =>
        have hmg : Hid (-m = gz) := by unfold Hid; omega
        clear hab hGp hGd hgz hx hy hyn
        go_upto_region 6 with fail
        rw [hmg.out]
      case' inr =>
        have hmg : m = gz := by omega
        subst hmg
        clear hab hGp hGd hgz hx hy hyn
        go_upto_region 6 with fail
      all_goals
        go_quiet (fail)
        rw [← HX.out, ← HY.out]
        have hgq := hgj.drewN nq
        have hbq : Below w.heap.size w ((w.drewN j).drewN nq) := (below_drewN w j).trans (below_drewN (w.drewN j) nq)
        generalize (w.drewN j).drewN nq = wq at *
        by_cases hy1 : y = 1
        · have HF := Lib.hid (HRS.out.1 hy1)
          have ty : (y == 1) = true := by rw [beq_iff_eq]; exact hy1
          clear hy1
          go_wp2_with fail
          refine (itoa_any x (by omega) (by omega) _ hgq).mono ?_
          rintro e w2 ⟨_, rfl, rfl, hb2⟩
          rw [HF.out]
          go_wp2_with fail
          go_ret
          exact ⟨_, rfl, rfl, hbq.trans (hb2.mono hbq.size)⟩
        · have HF := Lib.hid (HRS.out.2 hy1)
          have ty : (y == 1) = false := by rw [beq_eq_false_iff_ne]; exact hy1
          clear hy1
          go_wp2_with fail
          refine (itoa_any x (by omega) (by omega) _ hgq).mono ?_
          rintro e w2 ⟨_, rfl, rfl, hb2⟩
          go_wp2_with fail
          refine (itoa_any y (by omega) (by omega) _ (hgq.below hb2)).mono ?_
          rintro e w3 ⟨_, rfl, rfl, hb3⟩
          go_wp2_with fail
          go_ret
          exact ⟨_, rfl, congrArg Value.string HF.out, hbq.trans ((hb2.trans (hb3.mono hb2.size)).mono hbq.size)⟩
    · have hz1 : (k != 0) = true := by rw [bne_iff_ne]; exact hz
      have hzb : (k == 0) = false := by rw [beq_eq_false_iff_ne]; exact hz
      have hlt : (m.tmod k).natAbs < k.natAbs := by rw [tmod_natAbs]; exact Nat.mod_lt _ (by omega)
      have HN : Hid (Nat.gcd k.natAbs (m.tmod k).natAbs = G) := by
        unfold Hid; rw [tmod_natAbs, gcd_step]; exact HM.out
      have hn2 : -2000000000000000000 ≤ m.tmod k ∧ m.tmod k ≤ 2000000000000000000 := by omega
      go_wp2_with fail
      go_quiet (fail)
      go_wp2_with fail
      go_roundw
      case rel => exact ⟨k, m.tmod k, rfl, rfl, HN, hk, hn2, dr_step ⟨j, rfl⟩ _⟩
      case measure => exact hlt

end Go.Proofs.YtdhcliekejiegaaGreatDoor

/- The walks over klipperef02.lowest, small. -/
namespace Go.Proofs.YtdhcliekejiegaaGreatDoor
open Go.RowKit Go.Lib

end Go.Proofs.YtdhcliekejiegaaGreatDoor

/- The walk over klipperef02.small. -/
namespace Go.Proofs.YtdhcliekejiegaaGreatDoor
open Go.RowKit Go.Lib

end Go.Proofs.YtdhcliekejiegaaGreatDoor

/- The walk over klipperef02.Fraction. -/
namespace Go.Proofs.YtdhcliekejiegaaGreatDoor
open Go.RowKit Go.Lib

theorem IS_size_mono {x n : Int} {k : Nat} (h : x.natAbs ≤ n.natAbs) (hn : (IS n).size ≤ k) (hk : 0 < k) : (IS x).size ≤ k + 1 := by
  have h1 := abs_size hn
  have h2 := nat_size_mono h h1 hk
  rw [IS_size, itoa_nat, decDigits_length] at h2
  rw [IS_size, itoa_len]
  split <;> omega

theorem gcd_fact {n : Int} {d G : Nat} (hd : 0 < d) (hG : G = Nat.gcd n.natAbs d) :
    0 < G ∧ G ≤ d ∧ n / (G : Int) = n.tdiv (G : Int) ∧ (n / (G : Int)).natAbs ≤ n.natAbs ∧ (d : Int) / (G : Int) = ((d / G : Nat) : Int) := by
  have h1 : 0 < G := by rw [hG]; exact Nat.gcd_pos_of_pos_right _ hd
  have h2 : G ≤ d := by rw [hG]; exact Nat.le_of_dvd hd (Nat.gcd_dvd_right _ _)
  have hdv : (G : Int) ∣ n := by rw [hG]; exact Int.ofNat_dvd_left.2 (Nat.gcd_dvd_left _ _)
  have e := Int.tdiv_eq_ediv_of_dvd hdv
  exact ⟨h1, h2, e.symm, by rw [← e, Int.natAbs_tdiv]; exact Nat.div_le_self _ _, rfl⟩

end Go.Proofs.YtdhcliekejiegaaGreatDoor
