import Derived.Test.YtlodicfimpgibaaGreatDoorZC1
import Derived.Lib.IndexBytes
/- Klipperef02 and rational: parts, small, lowest, Fraction. -/
set_option maxHeartbeats 1000000
set_option maxRecDepth 100000
namespace Go.Proofs.YtlodicfimpgibaaGreatDoor
open Go.RowKit Go.Lib
def fst47 (l : List UInt8) : List UInt8 := if 0 <= indexByte l 47 then l.take (indexByte l 47).toNat else l
def snd47 (l : List UInt8) : List UInt8 := if 0 <= indexByte l 47 then l.drop ((indexByte l 47).toNat + 1) else [49]
theorem f4R (q : Rat) : fst47 (RL q) = itoa q.num := by
 unfold fst47;by_cases h : q.den = 1
 ·rw [Rio h, if_neg (by omega), Rod h]
 ·rw [Rid h, if_pos (by omega), Rdn h]; simp
theorem s4R (q : Rat) : snd47 (RL q) = decDigits q.den := by
 unfold snd47;by_cases h : q.den = 1
 ·rw [Rio h, if_neg (by omega), h, decDigits_one (i := 1) (by omega)]; rfl
 ·rw [Rid h, if_pos (by omega), Rdn h]
  rw [show ((itoa q.num).length : Int).toNat + 1 = (itoa q.num).length + 1 by omega];simp
theorem dIS (q : Rat) : BS (decDigits q.den) = IS (q.den : Int) := by unfold IS; rw [ib0]; rfl
theorem ilt {l : List UInt8} (h : 0 <= indexByte l 47) : (indexByte l 47).toNat < l.length := by
 obtain ⟨k, Z⟩ : ∃ k : Nat, indexByte l 47 = k := ⟨(indexByte l 47).toNat, by omega⟩;have := (indexByte_some Z).1;have Y := (List.getElem?_eq_some_iff.1 this).1;rw [Z]; simpa using Y
theorem pf0 (s : ByteArray) (O : s.size <= 1000000000000) (w : World) :
 Calls Tryz.prog 168 #[.string s] w (Drawn (fun v => v = .tuple #[.string (BS (fst47 s.data.toList)), .string (BS (snd47 s.data.toList))]) w) := by
 obtain ⟨S, Z⟩ := zex (indexByte s.data.toList 47);have U := indexByte_ge s.data.toList 47;rw [<- Z] at U;have V := hid Z;have Y : s.data.toList.length = s.size := by rw [Array.length_toList]; rfl
 rcases Int.lt_or_le S 0 with h | h
 ·have X : Hid (s = BS (fst47 s.data.toList) /\ (⟨#[49]⟩ : ByteArray) = BS (snd47 s.data.toList)) := by
   unfold Hid fst47 snd47;rw [<- Z, if_neg (by omega), if_neg (by omega)];exact ⟨bet (by rw [Blt]), rfl⟩
  clear Z Y;go_enter Tryz.func168, Tryz.ntmps168;go_wp2_with fail;refine (iSa s _).mono ?_;rintro e Q ⟨_, rfl, rfl, rfl⟩;rw [<- V.out];go_wp2_with fail;go_ret2;exact ⟨_, rfl, tup2s X.out.1 X.out.2, dzo _⟩
 ·obtain ⟨i, rfl⟩ : ∃ i : Nat, S = (i : Int) := ⟨S.toNat, by omega⟩
  have R : i < s.size := by
   have := ilt (l := s.data.toList) (by rw [<- Z]; exact h);rw [<- Z, Y] at this; simpa using this
  have X : Hid (s.extract 0 i = BS (fst47 s.data.toList) /\ s.extract (i + 1) s.size = BS (snd47 s.data.toList)) := by
   unfold Hid fst47 snd47;rw [<- Z, if_pos (by omega), if_pos (by omega), bte, bdp];exact ⟨rfl, rfl⟩
  have f1 : (0 : Int) <= (i : Int) := by omega
  have f2 : (i : Int) <= (s.size : Int) := by omega
  have f3 : (i : Int) + 1 <= (s.size : Int) := by omega
  have f4 : (0 : Int) <= (i : Int) + 1 := by omega
  clear Z Y;go_enter Tryz.func168, Tryz.ntmps168;go_wp2_with fail;refine (iSa s _).mono ?_;rintro e Q ⟨_, rfl, rfl, rfl⟩;rw [<- V.out];go_wp2_with fail;go_region;go_wp2_with fail;go_ret2;exact ⟨_, rfl, tup2s X.out.1 X.out.2, dsp ⟨0, rfl⟩ 1⟩
theorem pRa (q : Rat) (Z : (RS q).size <= 1000000000000) (w : World) :
 Calls Tryz.prog 168 #[.string (RS q)] w (Drawn (fun v => v = .tuple #[.string (IS q.num), .string (IS (q.den : Int))]) w) := by
 have h := pf0 (RS q) Z w;rw [Rlt, f4R, s4R, dIS] at h;exact h
theorem prt (q : Rat) (S : (RS q).size < 1000000000) (w : World) (U : Good w) :
 Calls Tryz.prog 38 #[.string (RS q)] w (Drawn (fun v => v = .tuple #[.string (IS q.num), .string (IS (q.den : Int))]) w) := by
 have V : Hid (cut (RS q).data.toList [47] = if q.den = 1 then (RL q, [], false) else (itoa q.num, decDigits q.den, true)) := by
  unfold Hid cut;rw [Rlt, index_one];by_cases h : q.den = 1
  ·rw [Rio h, if_neg (by omega), if_pos h]
  ·have e := f4R q
   have X := s4R q;unfold fst47 at e;unfold snd47 at X;rw [Rid h] at e X ⊢;rw [if_pos (by omega)] at e X ⊢;rw [if_neg h, e];rw [<- X]; rfl
 by_cases hd : q.den = 1
 ·have Y : Hid (BS (RL q) = IS q.num /\ (⟨#[49]⟩ : ByteArray) = IS (q.den : Int)) := by
   unfold Hid;rw [Rod hd, hd];exact ⟨rfl, by rw [show ((1 : Nat) : Int) = 1 from rfl, Ioe]⟩
  have Z : Hid (cut (RS q).data.toList [47] = (RL q, [], false)) := by unfold Hid; rw [V.out, if_pos hd]
  clear hd;go_enter Tryz.func38, Tryz.ntmps38;go_wp2_with fail;refine (cn0 (RS q) S _ U).mono ?_;rintro e R ⟨_, rfl, rfl, j, rfl⟩;rw [Z.out];go_wp2_with fail;go_ret2;exact ⟨_, rfl, tup2s Y.out.1 Y.out.2, j, rfl⟩
 ·have Y : Hid (BS (itoa q.num) = IS q.num /\ BS (decDigits q.den) = IS (q.den : Int)) := ⟨rfl, dIS q⟩
  have Z : Hid (cut (RS q).data.toList [47] = (itoa q.num, decDigits q.den, true)) := by unfold Hid; rw [V.out, if_neg hd]
  clear hd;go_enter Tryz.func38, Tryz.ntmps38;go_wp2_with fail;refine (cn0 (RS q) S _ U).mono ?_;rintro e R ⟨_, rfl, rfl, j, rfl⟩;rw [Z.out];go_wp2_with fail;go_ret2;exact ⟨_, rfl, tup2s Y.out.1 Y.out.2, j, rfl⟩
structure Lies (q : Rat) (s : ByteArray) (b0 n1 : Nat) : Prop where
 b1 : b0 <= 1
 neg : b0 = 1 ↔ q.num < 0
 lt : b0 < n1
 le : n1 <= s.size
 sign : (h : 0 < s.size) -> (s[0].toNat = 45 ↔ b0 = 1)
 dig : ∀ (i : Nat) (h : i < s.size), b0 <= i -> i < n1 -> isDig s[i]
 slash : (h : n1 < s.size) -> s[n1] = 47
 dig2 : ∀ (i : Nat) (h : i < s.size), n1 < i -> isDig s[i]
 num : dsl s b0 n1 = q.num.natAbs
 den1 : n1 = s.size -> q.den = 1
 den : n1 < s.size -> n1 + 1 < s.size /\ dsl s (n1 + 1) s.size = q.den
theorem lof (q : Rat) : ∃ b0 n1, Lies q (RS q) b0 n1 := by
 obtain ⟨P, L⟩ := zex (if q.num < 0 then [45] else [] : List UInt8)
 obtain ⟨D, M⟩ := zex (decDigits q.num.natAbs);obtain ⟨T, X⟩ := zex (if q.den = 1 then [] else 47 :: decDigits q.den : List UInt8)
 have N : (RS q).data.toList = P ++ (D ++ T) := by
  rw [Rlt, RL, inA, L, X, M];split <;> split <;> simp
 have S : ∀ c ∈ D, isDig c := by rw [M]; exact dDd _
 have R : 0 < D.length := by rw [M]; exact List.length_pos_iff.2 (dDn _)
 have A : (RS q).size = P.length + (D.length + T.length) := by
  have : (RS q).data.toList.length = (RS q).size := by rw [Array.length_toList]; rfl
  rw [<- this, N]; simp
 have K : ∀ (i : Nat) (h : i < (RS q).size), (RS q)[i] = (P ++ (D ++ T))[i]'(by rw [<- N, Array.length_toList]; exact h) := by
  intro i h;have H : i < (RS q).data.toList.length := by rw [Array.length_toList]; exact h
  have e : (RS q)[i] = (RS q).data.toList[i]'H := by rfl
  rw [e];simp only [N]
 have Q : P.length <= 1 /\ (P.length = 1 ↔ q.num < 0) := by
  rw [L]; split <;> simp_all
 refine ⟨P.length, P.length + D.length, ⟨Q.1, Q.2, by omega, by omega, ?_, ?_, ?_, ?_, ?_, ?_, ?_⟩⟩
 ·intro h
  rw [K 0 h];by_cases hn : q.num < 0
  ·have U : P = [45] := by rw [L, if_pos hn]
   subst U;simp
  ·have U : P = [] := by rw [L, if_neg hn]
   subst U;simp only [List.nil_append, List.length_nil];rw [List.getElem_append_left R];have := S _ (List.getElem_mem R);unfold isDig at this;constructor
   ·intro h; omega
   ·intro h; omega
 ·intro i h I H
  rw [K i h, List.getElem_append_right I, List.getElem_append_left (by omega)];exact S _ (List.getElem_mem _)
 ·intro h
  rw [K _ h, List.getElem_append_right (by omega), List.getElem_append_right (by omega)];have Y : 0 < T.length := by omega
  have V : q.den ≠ 1 := by
   intro e; rw [X, if_pos e] at Y; simp at Y
  have e : P.length + D.length - P.length - D.length = 0 := by omega
  simp only [e];simp only [X, if_neg V, List.getElem_cons_zero]
 ·intro i h I
  rw [K i h, List.getElem_append_right (by omega), List.getElem_append_right (by omega)];have V : q.den ≠ 1 := by
   intro e;have : T.length = 0 := by rw [X, if_pos e]; rfl
   omega
  obtain ⟨k, B⟩ : ∃ k, i - P.length - D.length = k + 1 := ⟨i - P.length - D.length - 1, by omega⟩;simp only [B];have Z : T = 47 :: decDigits q.den := by rw [X, if_neg V]
  have J : k < (decDigits q.den).length := by
   have : T.length = (decDigits q.den).length + 1 := by rw [Z]; simp
   omega
  have : T[k + 1]'(by rw [Z]; simp; exact J) = (decDigits q.den)[k] := by simp only [Z, List.getElem_cons_succ]
  rw [this];exact dDd _ _ (List.getElem_mem _)
 ·unfold dsl
  rw [N, <- List.append_assoc, List.take_append_of_le_length (by simp), List.take_of_length_le (by simp), List.drop_append_of_le_length (by omega), List.drop_eq_nil_of_le (by omega), List.nil_append, M, ddD]
 ·intro h
  have O : T.length = 0 := by omega
  refine Classical.byContradiction fun V => ?_
  rw [X, if_neg V] at O;simp at O
 ·intro h
  have Y : 0 < T.length := by omega
  have V : q.den ≠ 1 := by
   intro e; rw [X, if_pos e] at Y; simp at Y
  have Z : T = 47 :: decDigits q.den := by rw [X, if_neg V]
  have E : T.length = (decDigits q.den).length + 1 := by rw [Z]; simp
  have C : 0 < (decDigits q.den).length := List.length_pos_iff.2 (dDn _);refine ⟨by omega, ?_⟩;unfold dsl;rw [List.take_of_length_le (by rw [Array.length_toList]; exact Nat.le_refl _), N, Z, <- List.append_assoc,
   show P.length + D.length + 1 = (P ++ D).length + 1 by simp, List.drop_append]
  have G : List.drop (P.length + D.length + 1) (P ++ D) = [] := List.drop_eq_nil_of_le (by simp);simp [G, ddD]
theorem dl9 (s : ByteArray) (a b : Nat) (Y : ∀ (i : Nat) (h : i < s.size), a <= i -> i < b -> isDig s[i]) (V : b <= a + 9) : dsl s a b < 1000000000 := by
 unfold dsl;refine Nat.lt_of_lt_of_le (dlt _ fun c hc => ?_) ?_
 ·obtain ⟨i, X, rfl⟩ := List.getElem_of_mem hc
  rw [List.length_drop, List.length_take, Array.length_toList] at X;rw [List.getElem_drop, List.getElem_take];have Z : a + i < s.size := by have : s.data.size = s.size := rfl; omega
  exact Y (a + i) Z (by omega) (by omega)
 ·show 10 ^ _ <= 10 ^ 9
  refine Nat.pow_le_pow_right (by decide) ?_;rw [List.length_drop, List.length_take]; omega
def QIs (q : Rat) (v : Value) : Prop := ∃ (x y : Int) (one : Bool), v = .tuple #[.int .i64 x, .int .i64 y, .bool one] /\
 (one = true -> x = q.num /\ y = (q.den : Int) /\ (-1000000000 < x /\ x < 1000000000) /\ (0 < y /\ y < 1000000000))
theorem qed {q : Rat} {x y : Int} {v : Value} (h : v = .tuple #[.int .i64 x, .int .i64 y, .bool true]) (hx : x = q.num) (hy : y = (q.den : Int)) (Z : -1000000000 < x /\ x < 1000000000) (Y : y < 1000000000) : QIs q v :=
 ⟨x, y, true, h, fun _ => ⟨hx, hy, Z, by have := q.den_pos; omega, Y⟩⟩
theorem qot {q : Rat} {v : Value} (h : v = .tuple #[.int .i64 0, .int .i64 0, .bool false]) : QIs q v :=
 ⟨0, 0, false, h, fun h => by cases h⟩
theorem qQa (q : Rat) (hs : (RS q).size <= 1000000000) (w : World) :
 Calls Tryz.prog 37 #[.string (RS q)] w (Same (QIs q) w) := by
 obtain ⟨a, c, L⟩ := lof q;generalize RS q = s at *;have h7 : 0 < s.size := Nat.lt_of_lt_of_le (Nat.lt_of_le_of_lt (Nat.zero_le _) L.lt) L.le;have h8 := L.b1;have hb := L.lt;have ha := L.le;obtain ⟨c0, h0⟩ : ∃ c0 : Nat, s[0].toNat = c0 := ⟨_, rfl⟩;have n : c0 = 45 ↔ a = 1 := by rw [<- h0]; exact L.sign h7
 have R := hid L;obtain ⟨neg, x⟩ := zex (decide (q.num < 0));have o := hid x;have p : neg = decide (a = 1) := by rw [x]; simp only [L.neg]
 clear L x;rcases (by omega : a = 0 \/ a = 1) with rfl | rfl
 ·have t0 : ((c0 : Int) == 45) = false := by rw [beq_eq_false_iff_ne]; omega
  have hn : neg = false := p;subst hn;clear n p;go_enter Tryz.func37, Tryz.ntmps37;go_wp2_with fail;go_loop [2, 3, 5] (fun M r t5 => ∃ (i : Nat) (V : Int), r = .int .i64 0 /\ 0 <= i /\ i <= c /\ i <= 0 + 9 /\ t5 = .int .i64 i /\ M = .int .i64 V /\ Hid (V = (dsl s 0 i : Nat)) /\ 0 <= V /\ V < 1000000000) (fun _ _ t5 => s.size - (RowKit.intOf t5).toNat)
  case atStart => exact ⟨0, 0, rfl, Nat.le_refl _, by omega, by omega, rfl, rfl, by unfold Hid; rw [dsf]; rfl, by omega, by omega⟩
  case round =>
   obtain ⟨i, V, rfl, E, h4, g, rfl, rfl, O, e, y⟩ := hrel;rcases Nat.lt_or_ge i c with C | C
   ·have B : i < s.size := by omega
    have G : isDig s[i] := R.out.dig i B E C;unfold isDig at G;have Y : Hid (dsl s 0 (i + 1) = 10 * dsl s 0 i + (s[i].toNat - 48)) := dc0 s 0 i B E;obtain ⟨X, S⟩ : ∃ X : Nat, s[i].toNat = X := ⟨_, rfl⟩;rw [S] at G;have Q := hid S;have t1 : ((X : Int) != 47) = true := by rw [bne_iff_ne]; omega
    have d : ((X : Int) == 47) = false := by rw [beq_eq_false_iff_ne]; omega
    by_cases h9 : i = 0 + 9
    ·have M : ((i : Int) == 9) = true := by rw [beq_iff_eq]; omega
     clear Y h9;go_wp2_with fail
     go_ret3
     exact ⟨_, rfl, qot rfl, rfl⟩
    ·have M : ((i : Int) == 9) = false := by rw [beq_eq_false_iff_ne]; omega
     have l : i < 0 + 9 := by omega
     have J : Hid (10 * V + ((X : Int) - 48) = ((dsl s 0 (i + 1) : Nat) : Int)) := by
      unfold Hid; rw [Y.out, O.out, Q.out]; omega
     have hx : Hid (0 <= 10 * V + ((X : Int) - 48) /\ 10 * V + ((X : Int) - 48) < 1000000000) := by
      have := dl9 s 0 (i + 1) (fun k hk h1 h2 => R.out.dig k hk h1 (by omega)) (by omega);unfold Hid; rw [J.out]; omega
     clear Y h9;go_wp2_with fail
     go_round
     case rel => exact ⟨i + 1, _, rfl, by omega, by omega, by omega, by go_num, rfl, J, hx.out.1, hx.out.2⟩
     case measure => simp [RowKit.intOf]; omega
   ·have D : i = c := by omega
    have m : Hid (V = (q.num.natAbs : Nat)) := by rw [D] at O; have := R.out.num; unfold Hid; rw [O.out, this]
    subst D;have b : Hid (V = q.num) := by
     unfold Hid;have := of_decide_eq_false o.out.symm;rw [m.out]; omega
    have t : -1000000000 < V /\ V < 1000000000 := by omega
    clear O;rcases Nat.lt_or_ge i s.size with z | h3
    ·have v := R.out.slash z
     have Z := R.out.den z;obtain ⟨X, S⟩ : ∃ X : Nat, s[i].toNat = X := ⟨_, rfl⟩;have A : X = 47 := by rw [<- S, v]; rfl
     have t1 : ((X : Int) != 47) = false := by rw [bne_eq_false_iff_eq]; omega
     have d : ((X : Int) == 47) = true := by rw [beq_iff_eq]; omega
     have r : ((i : Int) == (s.size : Int)) = false := by rw [beq_eq_false_iff_ne]; omega
     have g : i + 1 < s.size := Z.1;have K := hid Z.2;clear A v Z;go_wp2_with fail;go_loop [2, 3, 5] (fun M r t5 => ∃ (k : Nat) (U : Int), M = .int .i64 (V) /\ i + 1 <= k /\ k <= s.size /\ k <= i + 1 + 9 /\ t5 = .int .i64 k /\ r = .int .i64 U /\ Hid (U = (dsl s (i + 1) k : Nat)) /\ 0 <= U /\ U < 1000000000) (fun _ _ t5 => s.size - (RowKit.intOf t5).toNat)
     case atStart => exact ⟨i + 1, 0, rfl, Nat.le_refl _, by omega, by omega, by go_num, rfl, by unfold Hid; rw [dsf]; rfl, by omega, by omega⟩
     case round =>
      obtain ⟨k, U, rfl, f, h5, h6, rfl, rfl, O, e, y⟩ := hrel;rcases Nat.lt_or_ge k s.size with N | N
      ·have G : isDig s[k] := R.out.dig2 k N (by omega)
       unfold isDig at G;have Y : Hid (dsl s (i + 1) (k + 1) = 10 * dsl s (i + 1) k + (s[k].toNat - 48)) := dc0 s (i + 1) k N f;obtain ⟨I, H⟩ : ∃ I : Nat, s[k].toNat = I := ⟨_, rfl⟩;rw [H] at G;have Q := hid H;by_cases h9 : k = i + 1 + 9
       ·have M : ((k : Int) - ((i : Int) + 1) == 9) = true := by rw [beq_iff_eq]; omega
        clear Y h9;go_wp2_with fail
        go_ret3
        exact ⟨_, rfl, qot rfl, rfl⟩
       ·have M : ((k : Int) - ((i : Int) + 1) == 9) = false := by rw [beq_eq_false_iff_ne]; omega
        have l : k < i + 1 + 9 := by omega
        have J : Hid (10 * U + ((I : Int) - 48) = ((dsl s (i + 1) (k + 1) : Nat) : Int)) := by
         unfold Hid; rw [Y.out, O.out, Q.out]; omega
        have hx : Hid (0 <= 10 * U + ((I : Int) - 48) /\ 10 * U + ((I : Int) - 48) < 1000000000) := by
         have := dl9 s (i + 1) (k + 1) (fun j hj h1 h2 => R.out.dig2 j hj (by omega)) (by omega);unfold Hid; rw [J.out]; omega
        clear Y h9;go_wp2_with fail
        go_round
        case rel => exact ⟨k + 1, _, rfl, by omega, by omega, by omega, by go_num, rfl, J, hx.out.1, hx.out.2⟩
        case measure => simp [RowKit.intOf]; omega
      ·have h : Hid (U = (q.den : Int)) := by
              have : k = s.size := by omega
              unfold Hid; rw [O.out, this, K.out]
       go_wp2_with fail
       go_ret3
       exact ⟨_, rfl, qed rfl b.out h.out t y, rfl⟩
    ·have Z : Hid ((1 : Int) = (q.den : Int)) := by
      have := R.out.den1 (by omega);unfold Hid; rw [this]; rfl
     have r : ((i : Int) == (s.size : Int)) = true := by rw [beq_iff_eq]; omega
     go_wp2_with fail
     go_ret3
     exact ⟨_, rfl, qed rfl b.out Z.out t (by omega), rfl⟩
 ·have t0 : ((c0 : Int) == 45) = true := by rw [beq_iff_eq]; omega
  have hn : neg = true := p;subst hn;clear n p;go_enter Tryz.func37, Tryz.ntmps37;go_wp2_with fail;go_loop [2, 3, 5] (fun M r t5 => ∃ (i : Nat) (V : Int), r = .int .i64 0 /\ 1 <= i /\ i <= c /\ i <= 1 + 9 /\ t5 = .int .i64 i /\ M = .int .i64 V /\ Hid (V = (dsl s 1 i : Nat)) /\ 0 <= V /\ V < 1000000000) (fun _ _ t5 => s.size - (RowKit.intOf t5).toNat)
  case atStart => exact ⟨1, 0, rfl, Nat.le_refl _, by omega, by omega, rfl, rfl, by unfold Hid; rw [dsf]; rfl, by omega, by omega⟩
  case round =>
   obtain ⟨i, V, rfl, E, h4, g, rfl, rfl, O, e, y⟩ := hrel;rcases Nat.lt_or_ge i c with C | C
   ·have B : i < s.size := by omega
    have G : isDig s[i] := R.out.dig i B E C;unfold isDig at G;have Y : Hid (dsl s 1 (i + 1) = 10 * dsl s 1 i + (s[i].toNat - 48)) := dc0 s 1 i B E;obtain ⟨X, S⟩ : ∃ X : Nat, s[i].toNat = X := ⟨_, rfl⟩;rw [S] at G;have Q := hid S;have t1 : ((X : Int) != 47) = true := by rw [bne_iff_ne]; omega
    have d : ((X : Int) == 47) = false := by rw [beq_eq_false_iff_ne]; omega
    by_cases h9 : i = 1 + 9
    ·have M : ((i : Int) - 1 == 9) = true := by rw [beq_iff_eq]; omega
     clear Y h9;go_wp2_with fail
     go_ret3
     exact ⟨_, rfl, qot rfl, rfl⟩
    ·have M : ((i : Int) - 1 == 9) = false := by rw [beq_eq_false_iff_ne]; omega
     have l : i < 1 + 9 := by omega
     have J : Hid (10 * V + ((X : Int) - 48) = ((dsl s 1 (i + 1) : Nat) : Int)) := by
      unfold Hid; rw [Y.out, O.out, Q.out]; omega
     have hx : Hid (0 <= 10 * V + ((X : Int) - 48) /\ 10 * V + ((X : Int) - 48) < 1000000000) := by
      have := dl9 s 1 (i + 1) (fun k hk h1 h2 => R.out.dig k hk h1 (by omega)) (by omega);unfold Hid; rw [J.out]; omega
     clear Y h9;go_wp2_with fail
     go_round
     case rel => exact ⟨i + 1, _, rfl, by omega, by omega, by omega, by go_num, rfl, J, hx.out.1, hx.out.2⟩
     case measure => simp [RowKit.intOf]; omega
   ·have D : i = c := by omega
    have m : Hid (V = (q.num.natAbs : Nat)) := by rw [D] at O; have := R.out.num; unfold Hid; rw [O.out, this]
    subst D;have b : Hid (-V = q.num) := by
     unfold Hid;have := of_decide_eq_true o.out.symm;rw [m.out]; omega
    have t : -1000000000 < -V /\ -V < 1000000000 := by omega
    clear O;rcases Nat.lt_or_ge i s.size with z | h3
    ·have v := R.out.slash z
     have Z := R.out.den z;obtain ⟨X, S⟩ : ∃ X : Nat, s[i].toNat = X := ⟨_, rfl⟩;have A : X = 47 := by rw [<- S, v]; rfl
     have t1 : ((X : Int) != 47) = false := by rw [bne_eq_false_iff_eq]; omega
     have d : ((X : Int) == 47) = true := by rw [beq_iff_eq]; omega
     have r : ((i : Int) == (s.size : Int)) = false := by rw [beq_eq_false_iff_ne]; omega
     have g : i + 1 < s.size := Z.1;have K := hid Z.2;clear A v Z;go_wp2_with fail;go_loop [2, 3, 5] (fun M r t5 => ∃ (k : Nat) (U : Int), M = .int .i64 (-V) /\ i + 1 <= k /\ k <= s.size /\ k <= i + 1 + 9 /\ t5 = .int .i64 k /\ r = .int .i64 U /\ Hid (U = (dsl s (i + 1) k : Nat)) /\ 0 <= U /\ U < 1000000000) (fun _ _ t5 => s.size - (RowKit.intOf t5).toNat)
     case atStart => exact ⟨i + 1, 0, rfl, Nat.le_refl _, by omega, by omega, by go_num, rfl, by unfold Hid; rw [dsf]; rfl, by omega, by omega⟩
     case round =>
      obtain ⟨k, U, rfl, f, h5, h6, rfl, rfl, O, e, y⟩ := hrel;rcases Nat.lt_or_ge k s.size with N | N
      ·have G : isDig s[k] := R.out.dig2 k N (by omega)
       unfold isDig at G;have Y : Hid (dsl s (i + 1) (k + 1) = 10 * dsl s (i + 1) k + (s[k].toNat - 48)) := dc0 s (i + 1) k N f;obtain ⟨I, H⟩ : ∃ I : Nat, s[k].toNat = I := ⟨_, rfl⟩;rw [H] at G;have Q := hid H;by_cases h9 : k = i + 1 + 9
       ·have M : ((k : Int) - ((i : Int) + 1) == 9) = true := by rw [beq_iff_eq]; omega
        clear Y h9;go_wp2_with fail
        go_ret3
        exact ⟨_, rfl, qot rfl, rfl⟩
       ·have M : ((k : Int) - ((i : Int) + 1) == 9) = false := by rw [beq_eq_false_iff_ne]; omega
        have l : k < i + 1 + 9 := by omega
        have J : Hid (10 * U + ((I : Int) - 48) = ((dsl s (i + 1) (k + 1) : Nat) : Int)) := by
         unfold Hid; rw [Y.out, O.out, Q.out]; omega
        have hx : Hid (0 <= 10 * U + ((I : Int) - 48) /\ 10 * U + ((I : Int) - 48) < 1000000000) := by
         have := dl9 s (i + 1) (k + 1) (fun j hj h1 h2 => R.out.dig2 j hj (by omega)) (by omega);unfold Hid; rw [J.out]; omega
        clear Y h9;go_wp2_with fail
        go_round
        case rel => exact ⟨k + 1, _, rfl, by omega, by omega, by omega, by go_num, rfl, J, hx.out.1, hx.out.2⟩
        case measure => simp [RowKit.intOf]; omega
      ·have h : Hid (U = (q.den : Int)) := by
              have : k = s.size := by omega
              unfold Hid; rw [O.out, this, K.out]
       go_wp2_with fail
       go_ret3
       exact ⟨_, rfl, qed rfl b.out h.out t y, rfl⟩
    ·have Z : Hid ((1 : Int) = (q.den : Int)) := by
      have := R.out.den1 (by omega);unfold Hid; rw [this]; rfl
     have r : ((i : Int) == (s.size : Int)) = true := by rw [beq_iff_eq]; omega
     go_wp2_with fail
     go_ret3
     exact ⟨_, rfl, qed rfl b.out Z.out t (by omega), rfl⟩
theorem bQa (q : Rat) (hs : (RS q).size <= 1000000000) (w : World) :
 Calls Tryz.prog 166 #[.string (RS q)] w (Same (QIs q) w) := by
 obtain ⟨e, g, L⟩ := lof q;generalize RS q = s at *;have h3 : 0 < s.size := Nat.lt_of_lt_of_le (Nat.lt_of_le_of_lt (Nat.zero_le _) L.lt) L.le;rcases Nat.lt_or_ge 9 s.size with h9 | h9
 ·clear L
  go_enter Tryz.func166, Tryz.ntmps166;go_wp2_with fail
  go_ret3
  exact ⟨_, rfl, qot rfl, rfl⟩
 ·have h4 := L.b1
  have h6 := L.lt;have h5 := L.le;obtain ⟨c0, d⟩ : ∃ c0 : Nat, s[0].toNat = c0 := ⟨_, rfl⟩;have p : c0 = 45 ↔ e = 1 := by rw [<- d]; exact L.sign h3
  have R := hid L;obtain ⟨neg, y⟩ := zex (decide (q.num < 0));have r := hid y;have t : neg = decide (e = 1) := by rw [y]; simp only [L.neg]
  clear L y;rcases (by omega : e = 0 \/ e = 1) with rfl | rfl
  ·have t0 : ((c0 : Int) == 45) = false := by rw [beq_eq_false_iff_ne]; omega
   have hn : neg = false := t;subst hn;clear p t;go_enter Tryz.func166, Tryz.ntmps166;go_wp2_with fail;go_loop [2, 5] (fun t2 t5 => ∃ (i : Nat) (X : Int), 0 <= i /\ i <= g /\ t5 = .int .i64 i /\ t2 = .int .i64 X /\ Hid (X = (dsl s 0 i : Nat)) /\ 0 <= X /\ X < 1000000000) (fun _ t5 => s.size - (RowKit.intOf t5).toNat)
   case atStart => exact ⟨0, 0, Nat.le_refl _, by omega, rfl, rfl, by unfold Hid; rw [dsf]; rfl, by omega, by omega⟩
   case round =>
    obtain ⟨i, X, G, b, rfl, rfl, O, l, z⟩ := hrel;rcases Nat.lt_or_ge i g with D | D
    ·have C : i < s.size := by omega
     have H : isDig s[i] := R.out.dig i C G D;unfold isDig at H;have V : Hid (dsl s 0 (i + 1) = 10 * dsl s 0 i + (s[i].toNat - 48)) := dc0 s 0 i C G;obtain ⟨Y, S⟩ : ∃ Y : Nat, s[i].toNat = Y := ⟨_, rfl⟩;rw [S] at H;have Q := hid S;have t1 : ((Y : Int) != 47) = true := by rw [bne_iff_ne]; omega
     have h : ((Y : Int) == 47) = false := by rw [beq_eq_false_iff_ne]; omega
     have K : Hid (10 * X + ((Y : Int) - 48) = ((dsl s 0 (i + 1) : Nat) : Int)) := by
      unfold Hid; rw [V.out, O.out, Q.out]; omega
     have hx : Hid (0 <= 10 * X + ((Y : Int) - 48) /\ 10 * X + ((Y : Int) - 48) < 1000000000) := by
      have := dl9 s 0 (i + 1) (fun k hk h1 h2 => R.out.dig k hk h1 (by omega)) (by omega);unfold Hid; rw [K.out]; omega
     clear V;go_wp2_with fail
     go_round
     case rel => exact ⟨i + 1, _, by omega, by omega, by go_num, rfl, K, hx.out.1, hx.out.2⟩
     case measure => simp [RowKit.intOf]; omega
    ·have E : i = g := by omega
     have o : Hid (X = (q.num.natAbs : Nat)) := by rw [E] at O; have := R.out.num; unfold Hid; rw [O.out, this]
     subst E;have f : Hid (X = q.num) := by
      unfold Hid;have := of_decide_eq_false r.out.symm;have := o.out;omega
     have v : -1000000000 < X /\ X < 1000000000 := by omega
     clear O;rcases Nat.lt_or_ge i s.size with A | c
     ·have x := R.out.slash A
      have Z := R.out.den A;obtain ⟨Y, S⟩ : ∃ Y : Nat, s[i].toNat = Y := ⟨_, rfl⟩;have B : Y = 47 := by rw [<- S, x]; rfl
      have t1 : ((Y : Int) != 47) = false := by rw [bne_eq_false_iff_eq]; omega
      have h : ((Y : Int) == 47) = true := by rw [beq_iff_eq]; omega
      have a : i + 1 < s.size := Z.1;have M := hid Z.2;clear B x Z;go_wp2_with fail;go_loop [3, 5] (fun t3 t5 => ∃ (k : Nat) (U : Int), i + 1 <= k /\ k <= s.size /\ t5 = .int .i64 k /\ t3 = .int .i64 U /\ Hid (U = (dsl s (i + 1) k : Nat)) /\ 0 <= U /\ U < 1000000000) (fun _ t5 => s.size - (RowKit.intOf t5).toNat)
      case atStart => exact ⟨i + 1, 0, Nat.le_refl _, by omega, by go_num, rfl, by unfold Hid; rw [dsf]; rfl, by omega, by omega⟩
      case round =>
       obtain ⟨k, U, m, h0, rfl, rfl, O, l, z⟩ := hrel;rcases Nat.lt_or_ge k s.size with N | N
       ·have H : isDig s[k] := R.out.dig2 k N (by omega)
        unfold isDig at H;have V : Hid (dsl s (i + 1) (k + 1) = 10 * dsl s (i + 1) k + (s[k].toNat - 48)) := dc0 s (i + 1) k N m;obtain ⟨J, I⟩ : ∃ J : Nat, s[k].toNat = J := ⟨_, rfl⟩;rw [I] at H;have Q := hid I
        have K : Hid (10 * U + ((J : Int) - 48) = ((dsl s (i + 1) (k + 1) : Nat) : Int)) := by
               unfold Hid; rw [V.out, O.out, Q.out]; omega
        have hx : Hid (0 <= 10 * U + ((J : Int) - 48) /\ 10 * U + ((J : Int) - 48) < 1000000000) := by
               have := dl9 s (i + 1) (k + 1) (fun j hj h1 h2 => R.out.dig2 j hj (by omega)) (by omega);unfold Hid; rw [K.out]; omega
        clear V;go_wp2_with fail
        go_round
        case rel => exact ⟨k + 1, _, by omega, by omega, by go_num, rfl, K, hx.out.1, hx.out.2⟩
        case measure => simp [RowKit.intOf]; omega
       ·have n : Hid (U = (q.den : Int)) := by
               have : k = s.size := by omega
               unfold Hid; rw [O.out, this, M.out]
        go_wp2_with fail
        go_ret3
        exact ⟨_, rfl, qed (by simp) f.out n.out v z, rfl⟩
     ·have Z : Hid ((1 : Int) = (q.den : Int)) := by
       have := R.out.den1 (by omega);unfold Hid; rw [this]; rfl
      go_wp2_with fail
      go_ret3
      exact ⟨_, rfl, qed (by simp) f.out Z.out v (by omega), rfl⟩
  ·have t0 : ((c0 : Int) == 45) = true := by rw [beq_iff_eq]; omega
   have hn : neg = true := t;subst hn;clear p t;go_enter Tryz.func166, Tryz.ntmps166;go_wp2_with fail;go_loop [2, 5] (fun t2 t5 => ∃ (i : Nat) (X : Int), 1 <= i /\ i <= g /\ t5 = .int .i64 i /\ t2 = .int .i64 X /\ Hid (X = (dsl s 1 i : Nat)) /\ 0 <= X /\ X < 1000000000) (fun _ t5 => s.size - (RowKit.intOf t5).toNat)
   case atStart => exact ⟨1, 0, Nat.le_refl _, by omega, rfl, rfl, by unfold Hid; rw [dsf]; rfl, by omega, by omega⟩
   case round =>
    obtain ⟨i, X, G, b, rfl, rfl, O, l, z⟩ := hrel;rcases Nat.lt_or_ge i g with D | D
    ·have C : i < s.size := by omega
     have H : isDig s[i] := R.out.dig i C G D;unfold isDig at H;have V : Hid (dsl s 1 (i + 1) = 10 * dsl s 1 i + (s[i].toNat - 48)) := dc0 s 1 i C G;obtain ⟨Y, S⟩ : ∃ Y : Nat, s[i].toNat = Y := ⟨_, rfl⟩;rw [S] at H;have Q := hid S;have t1 : ((Y : Int) != 47) = true := by rw [bne_iff_ne]; omega
     have h : ((Y : Int) == 47) = false := by rw [beq_eq_false_iff_ne]; omega
     have K : Hid (10 * X + ((Y : Int) - 48) = ((dsl s 1 (i + 1) : Nat) : Int)) := by
      unfold Hid; rw [V.out, O.out, Q.out]; omega
     have hx : Hid (0 <= 10 * X + ((Y : Int) - 48) /\ 10 * X + ((Y : Int) - 48) < 1000000000) := by
      have := dl9 s 1 (i + 1) (fun k hk h1 h2 => R.out.dig k hk h1 (by omega)) (by omega);unfold Hid; rw [K.out]; omega
     clear V;go_wp2_with fail
     go_round
     case rel => exact ⟨i + 1, _, by omega, by omega, by go_num, rfl, K, hx.out.1, hx.out.2⟩
     case measure => simp [RowKit.intOf]; omega
    ·have E : i = g := by omega
     have o : Hid (X = (q.num.natAbs : Nat)) := by rw [E] at O; have := R.out.num; unfold Hid; rw [O.out, this]
     subst E;have f : Hid (-1 * X = q.num) := by
      unfold Hid;have := of_decide_eq_true r.out.symm;have := o.out;omega
     have v : -1000000000 < -1 * X /\ -1 * X < 1000000000 := by omega
     clear O;rcases Nat.lt_or_ge i s.size with A | c
     ·have x := R.out.slash A
      have Z := R.out.den A;obtain ⟨Y, S⟩ : ∃ Y : Nat, s[i].toNat = Y := ⟨_, rfl⟩;have B : Y = 47 := by rw [<- S, x]; rfl
      have t1 : ((Y : Int) != 47) = false := by rw [bne_eq_false_iff_eq]; omega
      have h : ((Y : Int) == 47) = true := by rw [beq_iff_eq]; omega
      have a : i + 1 < s.size := Z.1;have M := hid Z.2;clear B x Z;go_wp2_with fail;go_loop [3, 5] (fun t3 t5 => ∃ (k : Nat) (U : Int), i + 1 <= k /\ k <= s.size /\ t5 = .int .i64 k /\ t3 = .int .i64 U /\ Hid (U = (dsl s (i + 1) k : Nat)) /\ 0 <= U /\ U < 1000000000) (fun _ t5 => s.size - (RowKit.intOf t5).toNat)
      case atStart => exact ⟨i + 1, 0, Nat.le_refl _, by omega, by go_num, rfl, by unfold Hid; rw [dsf]; rfl, by omega, by omega⟩
      case round =>
       obtain ⟨k, U, m, h0, rfl, rfl, O, l, z⟩ := hrel;rcases Nat.lt_or_ge k s.size with N | N
       ·have H : isDig s[k] := R.out.dig2 k N (by omega)
        unfold isDig at H;have V : Hid (dsl s (i + 1) (k + 1) = 10 * dsl s (i + 1) k + (s[k].toNat - 48)) := dc0 s (i + 1) k N m;obtain ⟨J, I⟩ : ∃ J : Nat, s[k].toNat = J := ⟨_, rfl⟩;rw [I] at H;have Q := hid I
        have K : Hid (10 * U + ((J : Int) - 48) = ((dsl s (i + 1) (k + 1) : Nat) : Int)) := by
               unfold Hid; rw [V.out, O.out, Q.out]; omega
        have hx : Hid (0 <= 10 * U + ((J : Int) - 48) /\ 10 * U + ((J : Int) - 48) < 1000000000) := by
               have := dl9 s (i + 1) (k + 1) (fun j hj h1 h2 => R.out.dig2 j hj (by omega)) (by omega);unfold Hid; rw [K.out]; omega
        clear V;go_wp2_with fail
        go_round
        case rel => exact ⟨k + 1, _, by omega, by omega, by go_num, rfl, K, hx.out.1, hx.out.2⟩
        case measure => simp [RowKit.intOf]; omega
       ·have n : Hid (U = (q.den : Int)) := by
               have : k = s.size := by omega
               unfold Hid; rw [O.out, this, M.out]
        go_wp2_with fail
        go_ret3
        exact ⟨_, rfl, qed (by simp) f.out n.out v z, rfl⟩
     ·have Z : Hid ((1 : Int) = (q.den : Int)) := by
       have := R.out.den1 (by omega);unfold Hid; rw [this]; rfl
      go_wp2_with fail
      go_ret3
      exact ⟨_, rfl, qed (by simp) f.out Z.out v (by omega), rfl⟩
theorem RmR {n : Int} {d g : Nat} (X : 0 < d) (Y : g = Nat.gcd n.natAbs d) {x y : Int} (hx : x = n.tdiv (g : Int)) (hy : y = ((d / g : Nat) : Int)) :
 (y = 1 -> IS x = RS (mkRat n d)) /\ (y ≠ 1 -> (IS x ++ ⟨#[47]⟩) ++ IS y = RS (mkRat n d)) := by
 have h := Rd0 n d (by omega);rw [<- Y] at h;have Z : n / (g : Int) = x := by
  rw [hx];have : (g : Int) ∣ n := by
   rw [Y]; exact Int.ofNat_dvd_left.2 (Nat.gcd_dvd_left _ _)
  exact (Int.tdiv_eq_ediv_of_dvd this).symm
 rw [Z] at h;refine ⟨fun h1 => ?_, fun h1 => ?_⟩
 ·rw [if_pos (by omega)] at h
  exact bet (by rw [Rlt, h, Ilt])
 ·rw [if_neg (by omega)] at h
  apply bet;rw [Rlt, h, ba0, ba0, Ilt, Ilt, hy, ib0];simp
theorem Is2 {x : Int} (h : -10000000000000000000 < x /\ x < 10000000000000000000) : (IS x).size <= 20 := by
 rw [Ise]
 exact ill (k := 19) (by decide) (by have : (10 : Nat) ^ 19 = 10000000000000000000 := by decide
                                     omega)
theorem si0 (n : Int) (d : Nat) (Q : Int) (I : Q = (d : Int)) (B : 0 < d) (hn : -2000000000000000000 <= n /\ n <= 2000000000000000000) (h0 : Q <= 1000000000000000000) (w : World) (hg : Good w) :
 Calls Tryz.prog 63 #[.int .i64 n, .int .i64 Q] w (Ret (fun v _ => v = .string (RS (mkRat n d))) w) := by
 have a : 0 < Q := by omega
 have X := hid I;clear I;go_enter Tryz.func63, Tryz.ntmps63;obtain ⟨G, E⟩ := zex (Nat.gcd n.natAbs d);have K : 0 < G := by rw [E]; exact Nat.gcd_pos_of_pos_right _ B
 have L : G <= d := by rw [E]; exact Nat.le_of_dvd B (Nat.gcd_dvd_right _ _)
 have q := hid E;clear E;go_wp2_with fail;go_loopw [5, 6] (fun t5 t6 wr => ∃ m k : Int, t5 = .int .i64 m /\ t6 = .int .i64 k /\ Hid (Nat.gcd m.natAbs k.natAbs = G) /\ (-2000000000000000000 <= m /\ m <= 2000000000000000000) /\ (-2000000000000000000 <= k /\ k <= 2000000000000000000) /\ ∃ j, wr = w.drewN j) (fun _ t6 _ => (RowKit.intOf t6).natAbs)
 case atStart => exact ⟨n, Q, rfl, rfl, by unfold Hid; rw [q.out, X.out]; rfl, hn, by omega, 0, rfl⟩
 case round =>
  obtain ⟨m, k, rfl, rfl, p, hm, hk, j, rfl⟩ := hrel;by_cases hz : k = 0
  ·subst hz
   have J : m.natAbs = G := by have := p.out; rwa [Int.natAbs_zero, Nat.gcd_zero_right] at this
   have A := hg.drewN j;obtain ⟨x, hx⟩ := zex (n.tdiv (G : Int));obtain ⟨y, hy⟩ := zex (Q / (G : Int) : Int);have Y : y = ((d / G : Nat) : Int) := by rw [hy, X.out]; rfl
   have O := hid (RmR B q.out hx Y);have H := tlm (y := (G : Int)) (x := n) (M := 2000000000000000001) (by omega);rw [<- hx] at H;have h4 : 0 <= y /\ y <= 1000000000000000000 := by
    rw [Y];have h1 : d / G <= d := Nat.div_le_self _ _;have := X.out;generalize d / G = z at *;omega
   obtain ⟨N, S⟩ := zex ((G : Int) : Int);have o : 1 <= N := by omega
   have l : ¬ N = 0 := by omega
   have i : (N == 0) = false := by rw [beq_eq_false_iff_ne]; omega
   rw [<- S] at hx hy;have r := H;rw [hx] at r;have c := hid hx;have b := hid hy;have h2 := Is2 (x := x) (by omega);have h3 := Is2 (x := y) (by omega);rcases Int.lt_or_le m 0 with h | g
   case' inl =>
    have R : Hid (-m = N) := by unfold Hid; omega
    clear J K L S hx hy Y;go_upto_region 6 with fail;rw [R.out]
   case' inr =>
    have R : m = N := by omega
    subst R;clear J K L S hx hy Y;go_upto_region 6 with fail
   all_goals
    go_quiet (fail);rw [<- c.out, <- b.out];have U := A.drewN nq;have V : Below w.heap.size w ((w.drewN j).drewN nq) := (bdN w j).trans (bdN (w.drewN j) nq);generalize (w.drewN j).drewN nq = wq at *;by_cases hy1 : y = 1
    ·have D := hid (O.out.1 hy1)
     have ty : (y == 1) = true := by rw [beq_iff_eq]; exact hy1
     clear hy1;go_wp2_with fail;refine (iay x (by omega) (by omega) _ U).mono ?_;rintro e w2 ⟨_, rfl, rfl, Z⟩;rw [D.out];go_wp2_with fail;go_ret;exact ⟨_, rfl, rfl, (zbt V Z)⟩
    ·have D := hid (O.out.2 hy1)
     have ty : (y == 1) = false := by rw [beq_eq_false_iff_ne]; exact hy1
     clear hy1;go_wp2_with fail;refine (iay x (by omega) (by omega) _ U).mono ?_;rintro e w2 ⟨_, rfl, rfl, Z⟩;go_wp2_with fail;refine (iay y (by omega) (by omega) _ (U.below Z)).mono ?_;rintro e w3 ⟨_, rfl, rfl, C⟩;go_wp2_with fail;go_ret;exact ⟨_, rfl, congrArg Value.string D.out, V.trans (((zbt Z C)).mono V.size)⟩
  ·have h5 : (k != 0) = true := by rw [bne_iff_ne]; exact hz
   have h6 : (k == 0) = false := by rw [beq_eq_false_iff_ne]; exact hz
   have t : (m.tmod k).natAbs < k.natAbs := by rw [tnA]; exact Nat.mod_lt _ (by omega)
   have f : Hid (Nat.gcd k.natAbs (m.tmod k).natAbs = G) := by
    unfold Hid; rw [tnA, gsp]; exact p.out
   have s : -2000000000000000000 <= m.tmod k /\ m.tmod k <= 2000000000000000000 := by omega
   go_wp2_with fail;go_quiet (fail);go_wp2_with fail;go_roundw
   case rel => exact ⟨k, m.tmod k, rfl, rfl, f, hk, s, dsp ⟨j, rfl⟩ _⟩
   case measure => exact t
theorem Ra0 (n : Int) : IS n = RS (mkRat n 1) := by
 have h := (RmR (n := n) (d := 1) (g := 1) (by omega) (by rw [Nat.gcd_one_right]) (x := n) (y := 1) (by rw [show ((1 : Nat) : Int) = 1 from rfl, Int.tdiv_one]) (by rfl)).1 rfl;exact h
theorem lQa (n : Int) (d : Nat) (Y : Int) (K : Y = (d : Int)) (o : 0 < d) (hn : -2000000000000000000 <= n /\ n <= 2000000000000000000) (h2 : Y <= 1000000000000000000) (w : World) (l : Good w) :
 Calls Tryz.prog 167 #[.int .i64 n, .int .i64 Y] w (Ret (fun v _ => v = .string (RS (mkRat n d))) w) := by
 have h0 : 0 < Y := by omega
 have X := hid K;clear K;by_cases O : Y = 1
 ·have N : Hid (IS n = RS (mkRat n d)) := by
   have e : d = 1 := by have := X.out; omega
   rw [e]; exact Ra0 n
  have t1 : (Y != 1) = false := by rw [bne_eq_false_iff_eq]; exact O
  have t2 : (Y == 1) = true := by rw [beq_iff_eq]; exact O
  clear O;go_enter Tryz.func167, Tryz.ntmps167;go_wp2_with fail;refine (iay n (by omega) (by omega) _ l).mono ?_;rintro e f ⟨_, rfl, rfl, Z⟩;rw [N.out];go_wp2_with fail;go_ret;exact ⟨_, rfl, rfl, Z⟩
 ·have t1 : (Y != 1) = true := by rw [bne_iff_ne]; exact O
  obtain ⟨G, E⟩ := zex (Nat.gcd n.natAbs d);have D : 0 < G := by rw [E]; exact Nat.gcd_pos_of_pos_right _ o
  have q := hid E;have s : 0 <= max n (-n) /\ max n (-n) <= 2000000000000000000 := by omega
  have J : (max n (-n)).natAbs = n.natAbs := by omega
  have H := hid J;clear E O J;go_enter Tryz.func167, Tryz.ntmps167;go_wp2_with fail;go_loopw [5, 6] (fun t5 t6 wr => ∃ m k : Int, t5 = .int .i64 m /\ t6 = .int .i64 k /\ Hid (Nat.gcd m.natAbs k.natAbs = G) /\ (0 <= m /\ m <= 2000000000000000000) /\ (0 <= k /\ k <= 2000000000000000000) /\ ∃ j, wr = w.drewN j) (fun _ t6 _ => (RowKit.intOf t6).natAbs)
  case atStart => exact ⟨max n (-n), Y, rfl, rfl, by unfold Hid; rw [H.out, q.out, X.out]; rfl, s, by omega, 0, rfl⟩
  case round =>
   obtain ⟨m, k, rfl, rfl, p, hm, hk, j, rfl⟩ := hrel;by_cases hz : k = 0
   ·subst hz
    have C : m.natAbs = G := by have := p.out; rwa [Int.natAbs_zero, Nat.gcd_zero_right] at this
    have A := l.drewN j;have S : m = (G : Int) := by omega
    obtain ⟨x, hx⟩ := zex (n.tdiv m);obtain ⟨y, hy⟩ := zex (Y / m : Int);have Q : y = ((d / G : Nat) : Int) := by rw [hy, X.out, S]; rfl
    have L := hid (RmR o q.out (x := x) (by rw [hx, S]) Q);have I := tlm (y := m) (x := n) (M := 2000000000000000001) (by omega);have h6 := I;rw [<- hx] at I;have h7 : 0 <= y /\ y <= 1000000000000000000 := by
     rw [Q];have O : d / G <= d := Nat.div_le_self _ _;have := X.out;generalize d / G = z at *;omega
    have i : 1 <= m := by omega
    have h : ¬ m = 0 := by omega
    have g : (m == 0) = false := by rw [beq_eq_false_iff_ne]; omega
    have b := hid hx;have a := hid hy;have h4 := Is2 (x := x) (by omega);have h5 := Is2 (x := y) (by omega);clear C D hx hy Q S;go_upto_region 5 with fail;go_quiet (fail);rw [<- b.out, <- a.out];have U := A.drewN nq;have V : Below w.heap.size w ((w.drewN j).drewN nq) := (bdN w j).trans (bdN (w.drewN j) nq);generalize (w.drewN j).drewN nq = wq at *;by_cases hy1 : y = 1
    ·have N := hid (L.out.1 hy1)
     have ty : (y == 1) = true := by rw [beq_iff_eq]; exact hy1
     clear hy1;go_wp2_with fail;refine (iay x (by omega) (by omega) _ U).mono ?_;rintro e f ⟨_, rfl, rfl, Z⟩;rw [N.out];go_wp2_with fail;go_ret;exact ⟨_, rfl, rfl, (zbt V Z)⟩
    ·have N := hid (L.out.2 hy1)
     have ty : (y == 1) = false := by rw [beq_eq_false_iff_ne]; exact hy1
     clear hy1;go_wp2_with fail;refine (iay x (by omega) (by omega) _ U).mono ?_;rintro e f ⟨_, rfl, rfl, Z⟩;go_wp2_with fail;refine (iay y (by omega) (by omega) _ (U.below Z)).mono ?_;rintro e w3 ⟨_, rfl, rfl, B⟩;go_wp2_with fail;go_ret;exact ⟨_, rfl, congrArg Value.string N.out, V.trans (((zbt Z B)).mono V.size)⟩
   ·have h8 : (k != 0) = true := by rw [bne_iff_ne]; exact hz
    have h9 : (k == 0) = false := by rw [beq_eq_false_iff_ne]; exact hz
    have R : m % k = m.tmod k := (Int.tmod_eq_emod_of_nonneg hm.1).symm;have t : (m % k).natAbs < k.natAbs := by rw [R, tnA]; exact Nat.mod_lt _ (by omega)
    have c : Hid (Nat.gcd k.natAbs (m % k).natAbs = G) := by
     unfold Hid; rw [R, tnA, gsp]; exact p.out
    have r : 0 <= m % k /\ m % k <= 2000000000000000000 := by have := Int.emod_nonneg m hz; omega
    have h3 : 1 <= k := by omega
    clear R;go_wp2_with fail;go_quiet (fail);go_wp2_with fail;go_roundw
    case rel => exact ⟨k, m % k, rfl, rfl, c, hk, r, dsp ⟨j, rfl⟩ _⟩
    case measure => exact t
theorem Il9 {a : Int} (h : (IS a).size <= 9) : -1000000000 < a /\ a < 1000000000 := by
 have Z := nAl (k := 9) (by decide) (by rw [<- Ise]; exact h);have Y : (10 : Nat) ^ 9 = 1000000000 := by decide
 omega
theorem s2a (a b n : Int) (d : Nat) (Y : Int) (t : Y = (d : Int)) (hd : 0 < d) (I : (IS a).size <= 9) (H : (IS b).size <= 9)
 (R : (b = Y /\ a = n) \/ (b = -Y /\ a = -n)) (w : World) (hg : Good w) :
 Calls Tryz.prog 140 #[.string (IS a), .string (IS b)] w (Ret (fun v _ => v = .string (RS (mkRat n d))) w) := by
 have s := Il9 I;have r := Il9 H;have h9 : 0 < Y := by omega
 have hn : -1000000000 < n /\ n < 1000000000 := by omega
 have ha : Y < 1000000000 := by omega
 have U := hid t;clear t;obtain ⟨G, f⟩ := zex (Nat.gcd n.natAbs d);have c : 0 < G := by rw [f]; exact Nat.gcd_pos_of_pos_right _ hd
 have h := hid f;clear f;obtain ⟨l, q⟩ := zex ((n.natAbs : Int) : Int);have g : Hid (l.natAbs = n.natAbs) := by unfold Hid; omega
 have hc : 0 <= l /\ l < 1000000000 := by omega
 have S := hid q;clear q;rcases R with ⟨B, A⟩ | ⟨B, A⟩
 case' inl =>
  have B := B.symm;have A := A.symm;subst B A;have t1 : decide (Y < 0) = false := by rw [decide_eq_false_iff_not]; omega
  go_enter Tryz.func140, Tryz.ntmps140;go_wp2_with fail;refine (aay n (by omega) _).mono ?_;rintro e w1 ⟨_, rfl, rfl, Q⟩;go_wp2_with fail;refine (aay Y (by omega) _).mono ?_;rintro e D ⟨_, rfl, rfl, Z⟩;go_upto_region 5 with fail;clear s r t1 I H
 case' inr =>
  have t1 : decide (b < 0) = true := by rw [decide_eq_true_iff]; omega
  have E1 : Hid (-b = Y) := by unfold Hid; omega
  have E2 : Hid (-a = n) := by unfold Hid; omega
  clear B A;go_enter Tryz.func140, Tryz.ntmps140;go_wp2_with fail;refine (aay a (by omega) _).mono ?_;rintro e w1 ⟨_, rfl, rfl, Q⟩;go_wp2_with fail;refine (aay b (by omega) _).mono ?_;rintro e D ⟨_, rfl, rfl, Z⟩;go_upto_region 5 with fail;rw [E1.out, E2.out];clear E1 E2 s r t1 I H
 all_goals
  have N := zbt Q Z;have h2 := hg.below N;clear Q Z;rcases Int.lt_or_le n 0 with V | p
  case' inl =>
   have t2 : decide (n < 0) = true := by rw [decide_eq_true_iff]; exact V
   have X : Hid (-n = l) := by have := S.out; unfold Hid; omega
   go_wp2_with fail;rw [X.out];clear V t2 X
  case' inr =>
   have t2 : decide (n < 0) = false := by rw [decide_eq_false_iff_not]; omega
   have X : n = l := by have := S.out; omega
   clear S;subst X;go_wp2_with fail;clear p t2
  all_goals
   go_loopw [9, 10] (fun t5 t6 wr => ∃ m k : Int, t5 = .int .i64 m /\ t6 = .int .i64 k /\ Hid (Nat.gcd m.natAbs k.natAbs = G) /\ (0 <= m /\ m <= 1000000000) /\ (0 <= k /\ k <= 1000000000) /\ ∃ j, wr = D.drewN j) (fun _ t6 _ => (RowKit.intOf t6).natAbs)
   case atStart => exact ⟨_, Y, rfl, rfl, by unfold Hid; rw [U.out]; first | (rw [g.out, h.out]; rfl) | (rw [h.out]; rfl), by omega, by omega, 0, rfl⟩
   case round =>
    obtain ⟨m, k, rfl, rfl, HM, hm, hk, j, rfl⟩ := hrel;by_cases hz : k = 0
    ·subst hz
     have R : m.natAbs = G := by have := HM.out; rwa [Int.natAbs_zero, Nat.gcd_zero_right] at this
     have h3 := h2.drewN j;have K : m = (G : Int) := by omega
     obtain ⟨x, hx⟩ := zex (n.tdiv m);obtain ⟨y, hy⟩ := zex (Y / m : Int);have E : y = ((d / G : Nat) : Int) := by rw [hy, U.out, K]; rfl
     have C := hid (RmR hd h.out (x := x) (by rw [hx, K]) E);have o := tlm (y := m) (x := n) (M := 1000000001) (by omega);have hh := o;rw [<- hx] at o;have hi : 0 <= y /\ y <= 1000000000 := by
      rw [E];have h1 : d / G <= d := Nat.div_le_self _ _;have := U.out;generalize d / G = z at *;omega
     have h6 : 1 <= m := by omega
     have h7 : ¬ m = 0 := by omega
     have h8 : (m == 0) = false := by rw [beq_eq_false_iff_ne]; omega
     have HX := hid hx;have HY := hid hy;have he := Is2 (x := x) (by omega);have hf := Is2 (x := y) (by omega);clear R c hx hy E K;go_upto_region 10 with fail;go_quiet (fail);rw [<- HX.out, <- HY.out];have L := h3.drewN nq;have O : Below w.heap.size w ((D.drewN j).drewN nq) := N.trans (((bdN D j).trans (bdN (D.drewN j) nq)).mono N.size);generalize (D.drewN j).drewN nq = wq at *;by_cases hy1 : y = 1
     ·have i := hid (C.out.1 hy1)
      have ty : (y == 1) = true := by rw [beq_iff_eq]; exact hy1
      clear hy1;go_wp2_with fail;refine (iay x (by omega) (by omega) _ L).mono ?_;rintro e w3 ⟨_, rfl, rfl, Z⟩;rw [i.out];go_wp2_with fail;go_ret;exact ⟨_, rfl, rfl, (zbt O Z)⟩
     ·have i := hid (C.out.2 hy1)
      have ty : (y == 1) = false := by rw [beq_eq_false_iff_ne]; exact hy1
      clear hy1;go_wp2_with fail;refine (iay x (by omega) (by omega) _ L).mono ?_;rintro e w3 ⟨_, rfl, rfl, Z⟩;go_wp2_with fail;refine (iay y (by omega) (by omega) _ (L.below Z)).mono ?_;rintro e w4 ⟨_, rfl, rfl, h0⟩;go_wp2_with fail;go_ret;exact ⟨_, rfl, congrArg Value.string i.out, O.trans (((zbt Z h0)).mono O.size)⟩
    ·have hj : (k != 0) = true := by rw [bne_iff_ne]; exact hz
     have hl : (k == 0) = false := by rw [beq_eq_false_iff_ne]; exact hz
     have J : m % k = m.tmod k := (Int.tmod_eq_emod_of_nonneg hm.1).symm;have h4 : (m % k).natAbs < k.natAbs := by rw [J, tnA]; exact Nat.mod_lt _ (by omega)
     have HN : Hid (Nat.gcd k.natAbs (m % k).natAbs = G) := by
      unfold Hid; rw [J, tnA, gsp]; exact HM.out
     have h5 : 0 <= m % k /\ m % k <= 1000000000 := by have := Int.emod_nonneg m hz; omega
     have hb : 1 <= k := by omega
     clear J;go_wp2_with fail;go_quiet (fail);go_wp2_with fail;go_roundw
     case rel => exact ⟨k, m % k, rfl, rfl, HN, hk, h5, dsp ⟨j, rfl⟩ _⟩
     case measure => exact h4
theorem Ism {x n : Int} {k : Nat} (h : x.natAbs <= n.natAbs) (V : (IS n).size <= k) (X : 0 < k) : (IS x).size <= k + 1 := by
 have Z := ase V;have Y := nsm h Z X;rw [Ise, ib0, decDigits_length] at Y;rw [Ise, iln];split <;> omega
theorem gft {n : Int} {d G : Nat} (X : 0 < d) (Z : G = Nat.gcd n.natAbs d) :
 0 < G /\ G <= d /\ n / (G : Int) = n.tdiv (G : Int) /\ (n / (G : Int)).natAbs <= n.natAbs /\ (d : Int) / (G : Int) = ((d / G : Nat) : Int) := by
 have V : 0 < G := by rw [Z]; exact Nat.gcd_pos_of_pos_right _ X
 have U : G <= d := by rw [Z]; exact Nat.le_of_dvd X (Nat.gcd_dvd_right _ _)
 have Y : (G : Int) ∣ n := by rw [Z]; exact Int.ofNat_dvd_left.2 (Nat.gcd_dvd_left _ _)
 have e := Int.tdiv_eq_ediv_of_dvd Y;exact ⟨V, U, e.symm, by rw [<- e, Int.natAbs_tdiv]; exact Nat.div_le_self _ _, rfl⟩
theorem fQa (a b n : Int) (d : Nat) (Z : Int) (Y : Z = (d : Int)) (hd : 0 < d) (h7 : (IS a).size <= 90000) (h8 : (IS b).size <= 90000)
 (V : (b = Z /\ a = n) \/ (b = -Z /\ a = -n)) (w : World) (hg : Good w) :
 Calls Tryz.prog 101 #[.string (IS a), .string (IS b)] w (Ret (fun v _ => v = .string (RS (mkRat n d))) w) := by
 by_cases hq : (IS a).size <= 9 /\ (IS b).size <= 9
 ·obtain ⟨h1, h2⟩ := hq
  have i := hid V;have g := hid Y;clear V Y;go_enter Tryz.func101, Tryz.ntmps101;go_wp2_with fail;refine (s2a a b n d Z g.out hd h1 h2 i.out _ hg).mono ?_;rintro e w1 ⟨_, rfl, rfl, X⟩;go_wp2_with fail;go_ret;exact ⟨_, rfl, rfl, X⟩
 ·obtain ⟨G, j⟩ := zex (Nat.gcd n.natAbs d)
  obtain ⟨h3, B, E, D, h0⟩ := gft hd j;have C : Hid (((Int.gcd n Z : Nat) : Int) = (G : Int)) := by unfold Hid; rw [j, Y]; rfl
  obtain ⟨x, hx⟩ := zex (n / (G : Int));obtain ⟨y, hy⟩ := zex (Z / (G : Int) : Int);have L : y = ((d / G : Nat) : Int) := by rw [hy, Y]; rfl
  have K := hid (RmR hd j (x := x) (by rw [hx, E]) L);have h9 : (IS n).size <= 90001 := by
   rcases V with ⟨_, h⟩ | ⟨_, h⟩
   ·rw [<- h]; omega
   ·rw [show n = -a by omega]; exact nse h7
  have l : (IS Z).size <= 90001 := by
   rcases V with ⟨h, _⟩ | ⟨h, _⟩
   ·rw [<- h]; omega
   ·rw [show Z = -b by omega]; exact nse h8
  have h6 : (IS (G : Int)).size <= 90001 := nsm B (by rw [<- Y]; exact l) (by omega);have hb : (IS x).size <= 90002 := Ism (by rw [hx]; exact D) h9 (by omega);have hc : (IS y).size <= 90002 := Ism (n := Z) (by rw [L, Y]; exact Nat.div_le_self d G) l (by omega);have ha : 0 < Z := by omega
  have k := Ia0 y;obtain ⟨c, p⟩ := zex ((G : Int) : Int);rw [<- p] at C hx hy h6;have H : Hid (c ≠ 0) := by unfold Hid; omega
  have HX := hid hx;have HY := hid hy;have o : ¬ (IS a).size <= 9 \/ ((IS a).size <= 9 /\ ¬ (IS b).size <= 9) := by omega
  clear j E D h0 h3 B L Y hx hy p hq;have m : (IS a).size <= 100000 := by omega
  have U : (IS b).size <= 100000 := by omega
  rcases V with ⟨J, I⟩ | ⟨J, I⟩
  case' inl =>
   have J := J.symm;have I := I.symm;subst J I;have h4 : ¬ Z < 0 := by omega
   rcases o with hq | ⟨hq, h5⟩
   all_goals
    go_enter Tryz.func101, Tryz.ntmps101;go_wp2_with fail;refine ((sk0 Z U _).mono fun _ _ h => h.ret).mono ?_;rintro e w1 ⟨_, rfl, rfl, X⟩;go_upto_region 5 with fail
  case' inr =>
   have h4 : b < 0 := by omega
   have E1 : Hid (-b = Z) := by unfold Hid; omega
   have E2 : Hid (-a = n) := by unfold Hid; omega
   clear J I;rcases o with hq | ⟨hq, h5⟩
   all_goals
    go_enter Tryz.func101, Tryz.ntmps101;go_wp2_with fail;refine ((sk0 b U _).mono fun _ _ h => h.ret).mono ?_;rintro e w0 ⟨_, rfl, rfl, O⟩;go_wp2_with fail;refine ((nRa a m _).mono fun _ _ h => h.ret).mono ?_;rintro e he ⟨_, rfl, rfl, S⟩;rw [E2.out];go_wp2_with fail;refine ((nRa b U _).mono fun _ _ h => h.ret).mono ?_;rintro e w1 ⟨_, rfl, rfl, R⟩;rw [E1.out];have X := O.trans (((zbt S R)).mono O.size);clear O S R;go_upto_region 5 with fail
  all_goals
   clear hq;have r := hg.below X;go_wp2_with fail;refine (gRa n Z (by omega) (by omega) _ r).mono ?_;rintro e w2 ⟨_, rfl, rfl, N⟩;rw [C.out];have Q := r.below N;have A := zbt X N;clear X N;go_wp2_with fail;refine (dRa n c (by omega) (by omega) H.out _ Q).mono ?_;rintro e w3 ⟨_, rfl, rfl, M⟩;rw [<- HX.out];have q := Q.below M;have z := zbt A M;clear A M;go_wp2_with fail;refine (dRa Z c (by omega) (by omega) H.out _ q).mono ?_;rintro e w4 ⟨_, rfl, rfl, t⟩;rw [<- HY.out];have s := zbt z t;clear z t;by_cases hy1 : y = 1
   ·have f := hid (K.out.1 hy1)
    rw [decide_eq_true hy1] at k;clear hy1;go_wp2_with fail;go_ret;exact ⟨_, rfl, congrArg Value.string f.out, s⟩
   ·have f := hid (K.out.2 hy1)
    rw [decide_eq_false hy1] at k;clear hy1;go_wp2_with fail;go_ret;exact ⟨_, rfl, congrArg Value.string f.out, s⟩
end Go.Proofs.YtlodicfimpgibaaGreatDoor
