import Derived.Test.YtgdpoankaojklaaGreatDoorVD2
import Derived.Laws.OwnMore
import Derived.BigRegion
import Derived.Deep.AppendLies
import Derived.Deep.RegionLaw
import Derived.Deep.RegionHeld3
import Derived.Deep.LoopGhost
/- Klipperef01 Integer -/
set_option maxHeartbeats 2000000
set_option maxRecDepth 100000
namespace Go.Proofs.YtgdpoankaojklaaGreatDoor
open Go.RowKit
theorem cell_one_i64 (w : World) (x : Int) (E : Nat) : ∀ (j : Nat) (u : Value), [Value.int .i64 x][j]? = some u -> (w.alloc (.cells #[.int .i64 x] E)).cell? ((⟨w.heap.size, 0, none⟩ : Addr).add j) = some u := cell_one_new _ _ _
theorem one_cell_i64 (x : Int) : ∀ u ∈ [Value.int .i64 x], u.oneCell' = true := by intro u hu; simp at hu; subst hu; rfl
def Few (len k : Nat) (ov : Int) : Prop := k <= len \/ ∃ f : Nat, k + f <= len + 5 /\ ov < 10000 ^ f
theorem Few.le {len k : Nat} {ov : Int} (h : Few len k ov) : k <= len + 5 := by
 rcases h with h | ⟨f, h, _⟩ <;> omega
theorem Few.step {len k : Nat} {ov s : Int} (h : Few len k ov) (hs : k < len \/ (s = ov /\ 0 < ov)) (h1 : ov <= 100000000000000000) : Few len (k + 1) (s / 10000) := by
 rcases hs with hk | ⟨rfl, h0⟩
 ·exact .inl hk
 ·rcases Nat.lt_or_ge k len with hk | hk
  ·exact .inl hk
  ·have h2 : ∃ f : Nat, k + f <= len + 5 /\ s < 10000 ^ f := by
    rcases h with h | h
    ·exact ⟨5, by omega, by omega⟩
    ·exact h
   obtain ⟨f, hf, hlt⟩ := h2;cases f with
   | zero => simp at hlt; omega
   | succ f =>
     refine .inr ⟨f, by omega, ?_⟩;rw [Int.pow_succ] at hlt;generalize (10000 : Int) ^ f = P at *;omega
def ArrI (k : IntKind) (w : World) (g E : Nat) (o : List Int) : Prop := w.heap[g]? = some (.cells (o.map fun x : Int => Value.int k x).toArray E (0, 0))
theorem ArrI.cell {k : IntKind} {w : World} {g E : Nat} {o : List Int} (h : ArrI k w g E o) (j : Nat) (hj : j < o.length) : w.cell? ⟨g, j, none⟩ = some (.int k (o[j])) := by
 rw [cell_of_row w g j _ E (0, 0) h];simp [hj]
theorem ArrI.frozen {k : IntKind} {w : World} {g E : Nat} {o : List Int} (h : ArrI k w g E o) (j : Nat) : w.frozen? ⟨g, j, none⟩ = false := by
 unfold World.frozen?;rw [h];simp
theorem ArrI.lt {k : IntKind} {w : World} {g E : Nat} {o : List Int} (h : ArrI k w g E o) : g < w.heap.size := (Array.getElem?_eq_some_iff.1 h).1
theorem ArrI.set {k : IntKind} {w : World} {g E : Nat} {o : List Int} (h : ArrI k w g E o) (j : Nat) (v : Int) : ArrI k (w.setCell ⟨g, j, none⟩ (.int k v)) g E (o.set j v) := by
 unfold ArrI at *;have hg : g < w.heap.size := (Array.getElem?_eq_some_iff.1 h).1;have h2 := (Array.getElem?_eq_some_iff.1 h).2;simp only [World.setCell, Array.getElem?_modify, if_pos, h, Option.map_some];simp [List.map_set]
theorem ArrI.rd {k : IntKind} {w : World} {g E : Nat} {o : List Int} (h : ArrI k w g E o) (hl : o.length <= maxLen) : RdI k w (.slice (some ⟨g, 0, none⟩) o.length o.length) o := by
 refine ⟨_, _, rfl, Nat.le_refl _, hl, by simp, fun _ => ⟨g, 0, rfl, fun i x hx => ?_⟩⟩;have hi : i < o.length := by have := (List.getElem?_eq_some_iff.1 hx).1; simpa using this
 rw [Nat.zero_add, h.cell i hi];simp [hi] at hx;rw [hx]
theorem ArrI.drewN {k : IntKind} {w : World} {g E : Nat} {o : List Int} (h : ArrI k w g E o) (n : Nat) : ArrI k (w.drewN n) g E o := h
def dsl (s : ByteArray) (a b : Nat) : Nat := dval ((s.data.toList.take b).drop a)
theorem dsl_self (s : ByteArray) (a : Nat) : dsl s a a = 0 := by
 unfold dsl; rw [List.drop_eq_nil_of_le (by simp; omega)]; rfl
theorem dsl_step (s : ByteArray) (a b : Nat) (h : b < s.size) (hab : a <= b) : dsl s a (b + 1) = 10 * dsl s a b + (s[b].toNat - 48) := by
 unfold dsl;have hb : b < s.data.toList.length := by simpa using h
 rw [List.take_succ_eq_append_getElem hb, List.drop_append_of_le_length (by simp; omega), dval_snoc];rfl
open Go.Lib
theorem ba_append (a b : ByteArray) : (a ++ b).data.toList = a.data.toList ++ b.data.toList := by simp [ByteArray.data_append]
def Take9 (s : List UInt8) (m k : Nat) (o : List Nat) : Prop := o.length = k /\ (∀ z ∈ o, z < B9) /\ lval B9 o + dval (s.take m) * B9 ^ k = dval s
theorem Take9.start (s : List UInt8) : Take9 s s.length 0 [] := ⟨rfl, by simp, by simp [lval]⟩
theorem Take9.step {s : List UInt8} {m k x : Nat} {o : List Nat} (hd : ∀ c ∈ s, isDig c) (h : Take9 s m k o) (hm : m <= s.length) (hx : x = dval ((s.take m).drop (m - 9))) :
 Take9 s (m - 9) (k + 1) (o ++ [x]) := by
 obtain ⟨h1, h2, h3⟩ := h;have hl : ((s.take m).drop (m - 9)).length = min 9 m := by simp; omega
 have hdig : ∀ c ∈ (s.take m).drop (m - 9), isDig c := fun c hc => hd c (List.mem_of_mem_take (List.mem_of_mem_drop hc));have hlt := dval_lt _ hdig;rw [hl, <- hx] at hlt;have hx4 : x < B9 := by
  refine Nat.lt_of_lt_of_le hlt ?_;show 10 ^ (min 9 m) <= 10 ^ 9;exact Nat.pow_le_pow_right (by decide) (Nat.min_le_left _ _)
 have e : s.take m = s.take (m - 9) ++ (s.take m).drop (m - 9) := by
  conv => lhs; rw [<- List.take_append_drop (m - 9) (s.take m)]
  rw [List.take_take, Nat.min_eq_left (by omega)]
 have e2 : dval (s.take m) = dval (s.take (m - 9)) * B9 + x := by
  rw [e, dval_append, hl, <- hx];rcases Nat.lt_or_ge m 9 with h4 | h4
  ·rw [show m - 9 = 0 by omega]; simp [dval]
  ·rw [Nat.min_eq_left h4]; rfl
 refine ⟨by simp [h1], fun z hz => ?_, ?_⟩
 ·rcases List.mem_append.1 hz with hz | hz
  ·exact h2 z hz
  ·simp only [List.mem_cons, List.not_mem_nil, or_false] at hz
   omega
 ·rw [lval_snoc, h1, <- h3, e2, Nat.pow_succ]
  grind
theorem Take9.done {s : List UInt8} {k : Nat} {o : List Nat} (h : Take9 s 0 k o) : dropZ o = lm B9 (dval s) := by
 obtain ⟨h1, h2, h3⟩ := h;rw [dropZ_eq B9 two_le_B9 _ h2, <- h3];simp [dval]
theorem trim_IS (n : Int) : BS (trimPrefix (IS n).data.toList [45]) = BS (decDigits n.natAbs) := by rw [IS_list, itoa_trim]
theorem pre_IS (n : Int) : hasPrefix (IS n).data.toList [45] = decide (n < 0) := by rw [IS_list, itoa_hasMinus]
theorem ba_take (s : ByteArray) (k : Nat) : s.extract 0 k = BS (s.data.toList.take k) := by
 apply ba_ext; rw [extract_data, BS_list, List.drop_zero, Nat.sub_zero]
theorem ba_drop (s : ByteArray) (k : Nat) : s.extract k s.size = BS (s.data.toList.drop k) := by
 apply ba_ext; rw [extract_to_end, BS_list]
theorem World.ownsRow.belowAll {w w' : World} {base e sz n : Nat} {v : Value} {cs : List Value} (h : w.ownsRow base e sz v n cs) (hb : Below w.heap.size w w') : w'.ownsRow base e sz v n cs := by
 refine ⟨h.1, ?_⟩;rcases h.2 with hn | ⟨g, cap, cur, rfl, hb1, hg, rest⟩
 ·exact .inl hn
 ·exact .inr ⟨g, cap, cur, rfl, hb1, (hb.block g (Array.getElem?_eq_some_iff.1 hg).1).trans hg, rest⟩
def strLen : Value -> Nat
 | .string s => s.size
 | _ => 0
def Opened (n : Int) (v : Value) (w : World) : Prop := ∃ vp, v = .agg #[.bool (decide (n < 0)), vp] /\ Rd .u64 w vp (lm B9 n.natAbs)
theorem open_any (n : Int) (hsz : (IS n).size <= 100000) (w : World) :
 Calls Tryz.prog 117 #[.string (IS n)] w (Ret (Opened n) w) := by
 obtain ⟨i0, hi, hz0, hz1, hz2⟩ := info_parts Tryz.info_u64;obtain ⟨neg, hneg⟩ : ∃ neg, neg = decide (n < 0) := ⟨_, rfl⟩;have HNEG := Lib.hid hneg;have hl0 : (decDigits n.natAbs).length <= 100000 := by
  have := itoa_len n;rw [IS_size] at hsz;rw [decDigits_length]; split at this <;> omega
 obtain ⟨l, hl⟩ : ∃ l, l = decDigits n.natAbs := ⟨_, rfl⟩;rw [<- hl] at hl0;have hdig : ∀ c ∈ l, isDig c := by rw [hl]; exact decDigits_dig _
 have HDIG := Lib.hid hdig;have HL := Lib.hid hl;clear hneg hdig hl;go_enter Tryz.func117, Tryz.ntmps117;go_wp2_with fail;refine (cutMinus_any _ _).mono ?_;rintro e w1 ⟨_, rfl, rfl, rfl⟩;rw [trim_IS, pre_IS, <- HL.out, <- HNEG.out];have hbs : (BS l).size <= 100000 := by rw [BS_size]; exact hl0
 have HBS : Hid ((BS l).size = l.length) := BS_size l;go_wp2_with (first | (at_make; refine wpList_make_own _ rfl _ _ 180 rfl (w.heap.size + 1) 215 i0 (.int .u64 0) 1 Tryz.underlying180 hi hz0 hz1 _ _ _ ((BS l).size / 9 + 1) rfl rfl (by omega) (by rw [hz2]; omega) (by unfold maxLen; omega) (by simp) ?_; intro w1 hown hgr));have hb1 : Below (w.heap.size + 1) (w.alloc (.cells #[.bool false, .slice none 0 0] 182)) w1 := (Below.refl _ _).grown hgr (by simp) (fun k hk => by cases hk);clear hgr;go_loopw [3, 5] (fun t3 t5 wr => ∃ (m k : Nat) (S : ByteArray) (o : List Nat), t3 = .string S /\ Hid (S = BS (l.take m)) /\ m <= S.size /\ S.size <= m /\ m <= l.length /\ m + k <= l.length + 1 /\ Hid (Take9 l m k o) /\ wr.ownsRow (w.heap.size + 1) 215 1 t5 k (o.map fun x : Nat => Value.int .u64 (x : Int)) /\ Below (w.heap.size + 1) (w.alloc (.cells #[.bool false, .slice none 0 0] 182)) wr)
  (fun t3 _ _ => strLen t3)
 case atStart => exact ⟨l.length, 0, _, [], rfl, by unfold Hid; rw [List.take_length], by rw [BS_size]; omega, by rw [BS_size]; omega, Nat.le_refl _, by omega, Take9.start _, by simpa using hown, hb1⟩
 case round =>
  clear hown hb1;obtain ⟨m, k, S, o, rfl, HS, hS1, hS2, hml, hmk, HT, hown, hnx⟩ := hrel;have hk6 : k <= 1000000 := by omega
  have hS6 : S.size <= 1000000 := by omega
  rcases Nat.eq_zero_or_pos m with hm0 | hmp
  ·have hS0 : ¬ 0 < S.size := by omega
   have HT0 : Hid (dropZ o = lm B9 n.natAbs) := by
    have h1 := HT.out;rw [hm0] at h1;have h2 := h1.done;rw [HL.out, dval_decDigits] at h2;exact h2
   have hlo : o.length = k := HT.out.1;have hrd : Rd .u64 wr _ o := Rd.of_owns rfl (by rw [hlo]; exact hown);have HRD := Lib.hid hrd;clear hlo hrd hm0;go_wp2_with fail;refine (trim_any _ _ _ HRD.out).mono ?_;rintro e w3 ⟨v3, rfl, hv3, rfl⟩;rw [HT0.out] at hv3;obtain ⟨p3, c3, rfl, hc3, hm3, hr3⟩ := hv3.open;have g1 : wr.cell? ⟨w.heap.size, 0, none⟩ = some (.bool false) := (hnx.cell (p := ⟨w.heap.size, 0, none⟩) (by simp)).trans (by rw [World.cell?_alloc_at _ _ _ _ rfl]; rfl);have g2 : wr.cell? ⟨w.heap.size, 1, none⟩ = some (.slice none 0 0) := (hnx.cell (p := ⟨w.heap.size, 1, none⟩) (by simp)).trans (by rw [World.cell?_alloc_at _ _ _ _ rfl]; rfl);have g1f : wr.frozen? ⟨w.heap.size, 0, none⟩ = false := (hnx.frozen (p := ⟨w.heap.size, 0, none⟩) (by simp)).trans (World.frozen?_alloc_at _ _ _ _ rfl);have g2f : wr.frozen? ⟨w.heap.size, 1, none⟩ = false := (hnx.frozen (p := ⟨w.heap.size, 1, none⟩) (by simp)).trans (World.frozen?_alloc_at _ _ _ _ rfl);clear hr3;have q1 := World.cell?_setCell_same' wr ⟨w.heap.size, 0, none⟩ (Value.bool neg) (by rw [g1]; rfl);have q2 : (wr.setCell ⟨w.heap.size, 0, none⟩ (Value.bool neg)).cell? ⟨w.heap.size, 1, none⟩ = some (.slice none 0 0) := by rw [World.cell?_setCell_other _ _ _ _ (by simp)]; exact g2
   have q3 := World.cell?_setCell_same' (wr.setCell ⟨w.heap.size, 0, none⟩ (Value.bool neg)) ⟨w.heap.size, 1, none⟩ (Value.slice p3 (lm B9 n.natAbs).length c3) (by rw [q2]; rfl);have q4 : ((wr.setCell ⟨w.heap.size, 0, none⟩ (Value.bool neg)).setCell ⟨w.heap.size, 1, none⟩ (Value.slice p3 (lm B9 n.natAbs).length c3)).cell? ⟨w.heap.size, 0, none⟩ = some (.bool neg) := by
    rw [World.cell?_setCell_other _ _ _ _ (by simp)]; exact q1
   have hfin : Rd .u64 ((wr.setCell ⟨w.heap.size, 0, none⟩ (Value.bool neg)).setCell ⟨w.heap.size, 1, none⟩ (Value.slice p3 (lm B9 n.natAbs).length c3)) (.slice p3 (lm B9 n.natAbs).length c3) (lm B9 n.natAbs) :=
    RdC.set_other (RdC.set_other hv3 g1 (by simp)) q2 (by simp)
   have hbw : Below w.heap.size w ((wr.setCell ⟨w.heap.size, 0, none⟩ (Value.bool neg)).setCell ⟨w.heap.size, 1, none⟩ (Value.slice p3 (lm B9 n.natAbs).length c3)) :=
    ((((Below.refl _ w).alloc (Nat.le_refl _) _).trans (hnx.mono (by omega))).setCell (Nat.le_refl _) _).setCell (Nat.le_refl _) _
   have HFIN := Lib.hid hfin;clear hfin hv3;go_wp2_with fail;refine bodyPost_ret (v := .agg #[.bool neg, .slice p3 (lm B9 n.natAbs).length c3]) (by simp [results, Tryz.results117, go_sem, q3, q4]) rfl ?_;exact ⟨_, rfl, ⟨_, by rw [HNEG.out], HFIN.out⟩, hbw⟩
  ·have hS0 : 0 < S.size := by omega
   obtain ⟨a, ha⟩ : ∃ a, a = m - 9 := ⟨_, rfl⟩;have ham : a <= m := by omega
   have hmax : Hid (max ((S.size : Int) - 9) 0 = (a : Int)) := by unfold Hid; omega
   have HA := Lib.hid ha;have HP : Hid (S.extract a S.size = BS ((l.take m).drop (m - 9))) := by
    unfold Hid; rw [ba_drop, HS.out, BS_list, HA.out]
   have hpd : ∀ c ∈ (l.take m).drop (m - 9), isDig c := fun c hc => HDIG.out c (List.mem_of_mem_take (List.mem_of_mem_drop hc));have hpl : ((l.take m).drop (m - 9)).length = min 9 m := by simp; omega
   have hpn : (l.take m).drop (m - 9) ≠ [] := List.ne_nil_of_length_pos (by omega);obtain ⟨x, hx⟩ : ∃ x, x = dval ((l.take m).drop (m - 9)) := ⟨_, rfl⟩;have hx9 : x < 1000000000 := by
    have := dval_lt _ hpd;rw [hpl, <- hx] at this;exact Nat.lt_of_lt_of_le this (show 10 ^ min 9 m <= 10 ^ 9 from Nat.pow_le_pow_right (by decide) (Nat.min_le_left _ _))
   have HX : Hid (Take9 l (m - 9) (k + 1) (o ++ [x])) := HT.out.step HDIG.out hml hx;have HPL := Lib.hid (show ((l.take m).drop (m - 9)).length <= 9 by omega);have HPD := Lib.hid hpd;have HXE := Lib.hid hx;obtain ⟨xz, hxz⟩ : ∃ xz : Int, xz = (x : Int) := ⟨_, rfl⟩;have hxz0 : 0 <= xz /\ xz < 1000000000 := by omega
   have HXZ := Lib.hid hxz;clear ha hpd hx hpl hxz;go_upto_region 5 with fail;rw [hmax.out];have f1 : (0 : Int) <= (a : Int) := by omega
   have f2 : (a : Int) <= (S.size : Int) := by omega
   have f3 : a <= S.size := by omega
   go_wp2_with fail;rw [HP.out];refine (parseUint_any _ HPD.out hpn HPL.out _).mono ?_;rintro e w2 ⟨_, rfl, rfl, hb2⟩;rw [<- HXE.out, <- HXZ.out];have hown2 := World.ownsRow.belowAll hown hb2;have hnx2 : Below (w.heap.size + 1) (w.alloc (.cells #[.bool false, .slice none 0 0] 182)) w2 := hnx.trans (hb2.mono (by have := hnx.size; simp at this; omega));have hsz2 : w.heap.size + 1 <= w2.heap.size := by have := hnx2.size; simp at this; omega
   clear hown hnx hb2;go_upto_region 6 with fail;have hownd : w2.drew.ownsRow (w.heap.size + 1) 215 1 _ k (o.map fun x : Nat => Value.int .u64 (x : Int)) := hown2;have HOWND := Lib.hid hownd;clear hownd
   go_region_law ((refine step_append_lies _ (by rfl) (.tmp 33) (.tmp 35) 180 (by rfl) (w.heap.size + 1) 215 i0 (.int .u64 0) 1 8 Tryz.underlying180 hi hz0 hz1 hz2 rfl (by decide) _ k (o.map fun x : Nat => Value.int .u64 (x : Int)) (by simp [Act.eval]) (HOWND.out.alloc _) ⟨w2.heap.size, 0, none⟩ 1 1 [.int .u64 xz] (by simp [Act.eval]) rfl (cell_one_u64 w2.drew _ _) (one_cell_u64 _) (by omega) (by unfold maxLen; omega) (by omega) (by simp; omega) _ rfl ?_; intro g5 cap5 w5 hown5 hgr5 hat5 hlt5))
   have hown6 : w5.ownsRow (w.heap.size + 1) 215 1 (.slice (some ⟨g5, 0, none⟩) (k + 1) cap5) (k + 1) ((o ++ [x]).map fun x : Nat => Value.int .u64 (x : Int)) := by
    rw [<- map_snoc_u64, <- HXZ.out]; exact hown5
   have HE : Hid (S.extract 0 a = BS (l.take (m - 9))) := by
    unfold Hid;rw [ba_take, HS.out, BS_list, List.take_take, HA.out, Nat.min_eq_left (by omega)]
   have hE1 : m - 9 <= (S.extract 0 a).size /\ (S.extract 0 a).size <= m - 9 := by
    rw [HE.out, BS_size, List.length_take]; omega
   have hbel : Below (w.heap.size + 1) (w.alloc (.cells #[.bool false, .slice none 0 0] 182)) w5 :=
    below_append (w := w.alloc (.cells #[.bool false, .slice none 0 0] 182)) hnx2.drew (by simp; exact hsz2) HOWND.out hgr5 (by simp)
   have hm9 : (S.extract 0 a).size < S.size := by omega
   clear hown5 hgr5 hat5;go_wp2_with fail;go_roundw
   case rel =>
    (repeat apply Exists.intro)
    exact ⟨⟨m - 9, k + 1, S.extract 0 a, _, rfl, HE, hE1.1, hE1.2, by omega, by omega, HX, hown6, hbel⟩, rfl⟩
   case measure => exact hm9
theorem ba_toList (s : ByteArray) : s.toList = s.data.toList := ByteArray.toList_eq s
theorem of_any (n : Int) (h0 : -9223372036854775808 <= n) (h1 : n <= 9223372036854775807) (w : World) (hg : Good w) :
 Calls Tryz.prog 77 #[.int .i64 n] w (Ret (fun v _ => v = .string (IS n)) w) := by
 go_enter Tryz.func77, Tryz.ntmps77;go_wp2_with fail;refine (itoa_any n h0 h1 w hg).mono ?_;rintro e w' ⟨_, rfl, rfl, hb⟩;go_wp2_with fail;go_ret;exact ⟨_, rfl, rfl, hb⟩
theorem quick_yes (n mz : Int) (hle : ((IS n).size : Int) <= mz) (hm : mz <= 18) (w : World) :
 Calls Tryz.prog 116 #[.string (IS n), .int .i64 mz] w (Ret (fun v _ => v = .tuple #[.int .i64 n, .bool true]) w) := by
 have h18 : (IS n).size <= 18 := by omega
 go_enter Tryz.func116, Tryz.ntmps116;go_wp2_with fail;refine (atoi_any n h18 w).mono ?_;rintro e w' ⟨_, rfl, rfl, hb⟩;go_wp2_with fail;go_quiet (fail);go_wp2_with fail;go_ret2;exact ⟨_, rfl, rfl, hb.trans ((below_drewN _ _).mono hb.size)⟩
theorem quick_no (n mz : Int) (hle : mz < ((IS n).size : Int)) (w : World) :
 Calls Tryz.prog 116 #[.string (IS n), .int .i64 mz] w (Ret (fun v _ => v = .tuple #[.int .i64 0, .bool false]) w) := by
 go_enter Tryz.func116, Tryz.ntmps116;go_wp2_with fail;go_ret2;exact ⟨_, rfl, rfl, Below.refl _ _⟩
theorem quick_any (n mz : Int) (hm : mz <= 18) (w : World) :
 Calls Tryz.prog 116 #[.string (IS n), .int .i64 mz] w (Ret (fun v _ => ∃ x one, v = .tuple #[.int .i64 x, .bool one] /\ (one = true -> x = n /\ ((IS n).size : Int) <= mz)) w) := by
 rcases Int.lt_or_le mz ((IS n).size : Int) with h | h
 ·refine (quick_no n mz h w).mono ?_
  rintro e w' ⟨_, rfl, rfl, hb⟩;exact ⟨_, rfl, ⟨_, _, rfl, fun h => by cases h⟩, hb⟩
 ·refine (quick_yes n mz h hm w).mono ?_
  rintro e w' ⟨_, rfl, rfl, hb⟩;exact ⟨_, rfl, ⟨_, _, rfl, fun _ => ⟨rfl, h⟩⟩, hb⟩
theorem IS_eq48 (n : Int) : ((IS n).toList == [48]) = decide (n = 0) := by rw [ba_toList, IS_list, itoa_eq48]
theorem IS_eq49 (n : Int) : ((IS n).toList == [49]) = decide (n = 1) := by rw [ba_toList, IS_list, itoa_eq49]
theorem IS_ne49 (n : Int) : ((IS n).toList != [49]) = !decide (n = 1) := by rw [<- IS_eq49]; rfl
theorem sign_any (n : Int) (w : World) :
 Calls Tryz.prog 112 #[.string (IS n)] w (Same (fun v => v = .int .i64 n.sign) w) := by
 have h8 := IS_eq48 n;have hp := pre_IS n;rcases Int.lt_trichotomy n 0 with h | h | h
 ·have hs : n.sign = -1 := Int.sign_eq_neg_one_of_neg h
  rw [decide_eq_false (by omega)] at h8;rw [decide_eq_true h] at hp;have HP := Lib.hid hp;have HS := Lib.hid hs;clear hp hs;go_enter Tryz.func112, Tryz.ntmps112;go_wp2_with fail;refine (hasMinus_any _ _).mono ?_;rintro e w1 ⟨_, rfl, rfl, rfl⟩;rw [HP.out];go_wp2_with fail;go_ret;exact ⟨_, rfl, congrArg (Value.int .i64) HS.out.symm, rfl⟩
 ·subst h
  rw [decide_eq_true rfl] at h8;clear hp;go_enter Tryz.func112, Tryz.ntmps112;go_wp2_with fail;go_ret;exact ⟨_, rfl, rfl, rfl⟩
 ·have hs : n.sign = 1 := Int.sign_eq_one_of_pos h
  rw [decide_eq_false (by omega)] at h8;rw [decide_eq_false (by omega)] at hp;have HP := Lib.hid hp;have HS := Lib.hid hs;clear hp hs;go_enter Tryz.func112, Tryz.ntmps112;go_wp2_with fail;refine (hasMinus_any _ _).mono ?_;rintro e w1 ⟨_, rfl, rfl, rfl⟩;rw [HP.out];go_wp2_with fail;go_ret;exact ⟨_, rfl, congrArg (Value.int .i64) HS.out.symm, rfl⟩
theorem neg_any (n : Int) (hsz : (IS n).size <= 100000) (w : World) :
 Calls Tryz.prog 113 #[.string (IS n)] w (Same (fun v => v = .string (IS (-n))) w) := by
 rcases Int.lt_trichotomy n 0 with h | h | h
 ·have HS : Hid (n.sign = -1) := Int.sign_eq_neg_one_of_neg h
  have h1 : 1 <= (IS n).size := by rw [IS_size]; exact itoa_len_pos n
  have HR : Hid ((IS n).extract 1 (IS n).size = IS (-n)) := by
   unfold Hid;apply ba_ext; rw [extract_to_end, IS_list, IS_list, itoa_drop_neg h]
  go_enter Tryz.func113, Tryz.ntmps113;go_wp2_with fail;refine (sign_any _ _).mono ?_;rintro e w1 ⟨_, rfl, rfl, rfl⟩;rw [HS.out];go_wp2_with fail;go_ret;exact ⟨_, rfl, congrArg Value.string HR.out, rfl⟩
 ·subst h
  have HS : Hid ((0 : Int).sign = 0) := rfl;go_enter Tryz.func113, Tryz.ntmps113;go_wp2_with fail;refine (sign_any _ _).mono ?_;rintro e w1 ⟨_, rfl, rfl, rfl⟩;rw [HS.out];go_wp2_with fail;go_ret;exact ⟨_, rfl, rfl, rfl⟩
 ·have HS : Hid (n.sign = 1) := Int.sign_eq_one_of_pos h
  have HR : Hid ((⟨#[45]⟩ : ByteArray) ++ IS n = IS (-n)) := by
   unfold Hid;apply ba_ext; rw [ba_append, IS_list, IS_list, <- itoa_cons_neg h]; rfl
  go_enter Tryz.func113, Tryz.ntmps113;go_wp2_with fail;refine (sign_any _ _).mono ?_;rintro e w1 ⟨_, rfl, rfl, rfl⟩;rw [HS.out];go_wp2_with fail;go_ret;exact ⟨_, rfl, congrArg Value.string HR.out, rfl⟩
structure Box2 (W : World) (X : Nat) (v0 v1 : Value) : Prop where
 c0 : W.cell? ⟨X, 0, none⟩ = some v0
 c1 : W.cell? ⟨X, 1, none⟩ = some v1
 f0 : W.frozen? ⟨X, 0, none⟩ = false
 f1 : W.frozen? ⟨X, 1, none⟩ = false
theorem Box2.below {W W' : World} {X : Nat} {v0 v1 : Value} (h : Box2 W X v0 v1) (hb : Below W.heap.size W W') : Box2 W' X v0 v1 := by
 have hX : X < W.heap.size := World.block_lt_of_cell? W _ h.c0;exact ⟨(zcq hb hX h.c0 :), (zcq hb hX h.c1 :), (hb.frozen (p := ⟨X, 0, none⟩) hX).trans h.f0, (hb.frozen (p := ⟨X, 1, none⟩) hX).trans h.f1⟩
theorem Box2.lt {W : World} {X : Nat} {v0 v1 : Value} (h : Box2 W X v0 v1) : X < W.heap.size := World.block_lt_of_cell? W _ h.c0
theorem box2_new (w : World) (T X : Nat) (v0 v1 : Value) (hX : w.heap.size = X) : Box2 (w.alloc (.cells #[v0, v1] T)) X v0 v1 := by
 subst hX;exact ⟨by rw [World.cell?_alloc_at _ _ _ _ rfl]; rfl, by rw [World.cell?_alloc_at _ _ _ _ rfl]; rfl, World.frozen?_alloc_at _ _ _ _ rfl, World.frozen?_alloc_at _ _ _ _ rfl⟩
theorem Box2.put {W : World} {X : Nat} {v0 v1 : Value} (h : Box2 W X v0 v1) (u0 u1 : Value) : Box2 ((W.setCell ⟨X, 0, none⟩ u0).setCell ⟨X, 1, none⟩ u1) X u0 u1 := by
 refine ⟨?_, ?_, ?_, ?_⟩
 ·rw [World.cell?_setCell_other _ _ _ _ (by simp)]
  exact World.cell?_setCell_same' _ _ _ (by rw [h.c0]; rfl)
 ·exact World.cell?_setCell_same' _ _ _ (by rw [World.cell?_setCell_other _ _ _ _ (by simp), h.c1]; rfl)
 ·rw [World.frozen?_setCell, World.frozen?_setCell]; exact h.f0
 ·rw [World.frozen?_setCell, World.frozen?_setCell]; exact h.f1
theorem Box2.other {W : World} {X Y : Nat} {v0 v1 : Value} (h : Box2 W X v0 v1) (hXY : Y ≠ X) (i : Nat) (u : Value) : Box2 (W.setCell ⟨Y, i, none⟩ u) X v0 v1 := by
 refine ⟨?_, ?_, ?_, ?_⟩
 ·rw [World.cell?_setCell_other _ _ _ _ (by simp only [ne_eq, Addr.mk.injEq, not_and]; intro h; exact absurd h hXY)]; exact h.c0
 ·rw [World.cell?_setCell_other _ _ _ _ (by simp only [ne_eq, Addr.mk.injEq, not_and]; intro h; exact absurd h hXY)]; exact h.c1
 ·rw [World.frozen?_setCell]; exact h.f0
 ·rw [World.frozen?_setCell]; exact h.f1
theorem Rd.box {k : IntKind} {W : World} {X : Nat} {m : Bool} {p : Option Addr} {n c : Nat} {v : Value} {l : List Nat} (h : Rd k W v l) (hx : Box2 W X (.bool m) (.slice p n c)) (u0 u1 : Value) :
 Rd k ((W.setCell ⟨X, 0, none⟩ u0).setCell ⟨X, 1, none⟩ u1) v l := by
 refine RdC.set_other (RdC.set_other h hx.c0 (by simp)) (c := .slice p n c) ?_ (by simp);rw [World.cell?_setCell_other _ _ _ _ (by simp)]; exact hx.c1
theorem size_lim {n : Int} (h : (IS n).size <= 18) : -1000000000000000000 < n /\ n < 1000000000000000000 := by
 rw [IS_size] at h;have := natAbs_lt_of_len (k := 18) (by decide) h;omega
theorem lm9_lenk {n : Int} {k : Nat} (hk : 0 < k) (h : (IS n).size <= k) : (lm B9 n.natAbs).length <= k := by
 rw [IS_size] at h;have h1 := natAbs_lt_of_len hk h;refine lm_len_le B9 _ _ two_le_B9 (Nat.lt_of_lt_of_le h1 ?_);exact Nat.pow_le_pow_left (by decide) _
theorem lm9_len {n : Int} (h : (IS n).size <= 100000) : (lm B9 n.natAbs).length <= 100000 := lm9_lenk (by decide) h
theorem lm_add_len {a b n : Nat} (ha : (lm B9 a).length <= n) (hb : (lm B9 b).length <= n) : (lm B9 (a + b)).length <= n + 1 := by
 refine lm_len_le B9 _ _ two_le_B9 ?_;have h1 := Nat.lt_of_lt_of_le (lm_len_lt B9 a two_le_B9) (Nat.pow_le_pow_right (show 0 < B9 by decide) ha);have h2 := Nat.lt_of_lt_of_le (lm_len_lt B9 b two_le_B9) (Nat.pow_le_pow_right (show 0 < B9 by decide) hb);have h3 : 2 * B9 ^ n <= B9 * B9 ^ n := Nat.mul_le_mul_right _ (by decide);rw [Nat.pow_succ, Nat.mul_comm];omega
theorem add_any (a b : Int) (hsa : (IS a).size <= 100000) (hsb : (IS b).size <= 100000) (w : World) (hg : Good w) :
 Calls Tryz.prog 73 #[.string (IS a), .string (IS b)] w (Ret (fun v _ => v = .string (IS (a + b))) w) := by
 have hla := lm9_len hsa;have hlb := lm9_len hsb;go_enter Tryz.func73, Tryz.ntmps73;go_wp2_with fail;refine (quick_any a 18 (by omega) _).mono ?_;rintro e w1 ⟨_, rfl, ⟨x, one, rfl, hx⟩, hb1⟩;go_upto_if 16 with fail;go_cut [] (fun wx => Below w.heap.size w wx)
 case first =>
  cases one
  ·go_wp2_with fail
   go_meet;exact hb1
  ·obtain ⟨rfl, h1⟩ := hx rfl
   have k1 := size_lim (n := x) (by omega);go_wp2_with fail;refine (quick_any b 18 (by omega) _).mono ?_;rintro e w2 ⟨_, rfl, ⟨y, two, rfl, hy⟩, hb2⟩;have hb3 := hb1.trans (hb2.mono hb1.size);cases two
   ·go_wp2_with fail
    go_meet;exact hb3
   ·obtain ⟨rfl, h2⟩ := hy rfl
    have k2 := size_lim (n := y) (by omega);go_wp2_with fail;refine (of_any (x + y) (by omega) (by omega) _ (hg.below hb3)).mono ?_;rintro e w3 ⟨_, rfl, rfl, hb4⟩;go_wp2_with fail;go_ret;exact ⟨_, rfl, rfl, hb3.trans (hb4.mono hb3.size)⟩
 case rest =>
  have hb3 := hcut;clear hcut;go_wp2_with fail;refine (open_any a hsa _).mono ?_;rintro e w4 ⟨_, rfl, ⟨va, rfl, hra⟩, hb4⟩;go_wp2_with fail;refine (open_any b hsb _).mono ?_;rintro e w5 ⟨_, rfl, ⟨vb, rfl, hrb⟩, hb5⟩;obtain ⟨pa, ca, rfl, hca, hma, hra'⟩ := hra.open;obtain ⟨pb, cb, rfl, hcb, hmb, hrb'⟩ := hrb.open;have HRA := Lib.hid (RdC.below hra hb5);have HRB := Lib.hid hrb;clear hra hrb hra' hrb';go_upto_region 7 with fail;obtain ⟨ma, hma'⟩ : ∃ ma, ma = decide (a < 0) := ⟨_, rfl⟩;obtain ⟨mb, hmb'⟩ : ∃ mb, mb = decide (b < 0) := ⟨_, rfl⟩;rw [<- hma', <- hmb'];have hz5 : w.heap.size <= w5.heap.size := by have := hb3.size; have := hb4.size; have := hb5.size; omega
  have hX0 : Below w.heap.size w w5 := hb3.trans ((hb4.trans (hb5.mono hb4.size)).mono hb3.size);generalize hW1 : w5.alloc (.cells #[.bool ma, .slice pa (lm B9 a.natAbs).length ca] 182) = W1;have x1 : Box2 W1 w5.heap.size (.bool ma) (.slice pa (lm B9 a.natAbs).length ca) := by rw [<- hW1]; exact box2_new _ _ _ _ _ rfl
  have hz1 : W1.heap.size = w5.heap.size + 1 := by rw [<- hW1]; simp
  have hB1 : Below w.heap.size w W1 := by rw [<- hW1]; exact hX0.alloc hz5 _
  have rA1 : Rd .u64 W1 (.slice pa (lm B9 a.natAbs).length ca) (lm B9 a.natAbs) := by rw [<- hW1]; exact HRA.out.alloc _
  have rB1 : Rd .u64 W1 (.slice pb (lm B9 b.natAbs).length cb) (lm B9 b.natAbs) := by rw [<- hW1]; exact HRB.out.alloc _
  generalize hW : W1.alloc (.cells #[.bool mb, .slice pb (lm B9 b.natAbs).length cb] 182) = W;have y1 : Box2 W (w5.heap.size + 1) (.bool mb) (.slice pb (lm B9 b.natAbs).length cb) := by rw [<- hW]; exact box2_new _ _ _ _ _ hz1
  have hBW1 : Below W1.heap.size W1 W := by rw [<- hW]; exact zal _ _
  have x2 := x1.below hBW1;have hbW : Below w.heap.size w W := hB1.trans (hBW1.mono (by omega));have rA : Rd .u64 W (.slice pa (lm B9 a.natAbs).length ca) (lm B9 a.natAbs) := RdC.below rA1 hBW1;have rB : Rd .u64 W (.slice pb (lm B9 b.natAbs).length cb) (lm B9 b.natAbs) := RdC.below rB1 hBW1;clear hW hW1 x1 hB1 rA1 rB1 hBW1 hz1 hX0 HRA HRB hb3 hb4 hb5;obtain ⟨c0, c1, c0f, c1f⟩ := x2;obtain ⟨d0, d1, d0f, d1f⟩ := y1;have hgW : Good W := hg.below hbW;have hWs : w5.heap.size + 1 < W.heap.size := World.block_lt_of_cell? W _ d0;have HMA := Lib.hid hma';have HMB := Lib.hid hmb';clear hma' hmb';by_cases hab : ma = mb
  ·subst hab
   have HRA := Lib.hid rA;have HRB := Lib.hid rB;have t1 : (ma == ma) = true := by simp
   have HV : Hid ((if ma then -((a.natAbs + b.natAbs : Nat) : Int) else ((a.natAbs + b.natAbs : Nat) : Int)) = a + b) := by
    unfold Hid;have h1 := HMA.out;have h2 := HMB.out;cases ma
    ·have := of_decide_eq_false h1.symm
     have := of_decide_eq_false h2.symm;simp; omega
    ·have := of_decide_eq_true h1.symm
     have := of_decide_eq_true h2.symm;simp; omega
   have hlab : (lm B9 (a.natAbs + b.natAbs)).length <= 1000000 := by
    have := lm_add_len hla hlb;omega
   have HAd : Hid (Rd .u64 W.drew (.slice pa (lm B9 a.natAbs).length ca) (lm B9 a.natAbs)) := HRA.out;have HBd : Hid (Rd .u64 W.drew (.slice pb (lm B9 b.natAbs).length cb) (lm B9 b.natAbs)) := HRB.out;clear rA rB;go_wp2_with fail;go_region_held3 (fun w' => w'.cell? ⟨w5.heap.size, 0, none⟩ = some (.bool ma) /\ w'.cell? ⟨w5.heap.size, 1, none⟩ = some (.slice pa (lm B9 a.natAbs).length ca) /\ w'.cell? ⟨w5.heap.size + 1, 1, none⟩ = some (.slice pb (lm B9 b.natAbs).length cb))
    (first | exact ⟨c0, c1, d1⟩ | exact ⟨e0, e1, f1⟩ | exact ⟨g0, g1, h1⟩)
    (first
    | (go_at_call 118; refine (plus_any _ _ _ a.natAbs b.natAbs HAd.out HBd.out (by omega) (by omega)).mono ?_; rintro e w6 ⟨v6, rfl, hv6, hb6⟩
       have e0 := zcq hb6 (show w5.heap.size < W.heap.size by omega) c0;have e1 := zcq hb6 (show w5.heap.size < W.heap.size by omega) c1;have f1 := zcq hb6 (show w5.heap.size + 1 < W.heap.size by omega) d1;have hs6 := hb6.size;obtain ⟨p6, c6, rfl, hc6, hm6, hr6⟩ := hv6.open;clear hr6)
    | (go_at_call 119; refine (close_any _ _ ma (a.natAbs + b.natAbs) hv6 hlab ((hgW.drewN 1).below hb6)).mono ?_; rintro e w7 ⟨_, rfl, rfl, hb7⟩; rw [HV.out]
       have g0 := zcq hb7 (by have h9 : W.drew.heap.size = W.heap.size := rfl; show w5.heap.size < _; omega) e0;have g1 := zcq hb7 (by have h9 : W.drew.heap.size = W.heap.size := rfl; show w5.heap.size < _; omega) e1;have h1 := (zcq hb7 (by have h9 : W.drew.heap.size = W.heap.size := rfl; show w5.heap.size + 1 < _; omega) f1 :)))
   all_goals
    go_wp2_with fail;go_ret;exact ⟨_, rfl, rfl, hbW.trans ((((below_drewN W 1).trans hb6).trans (hb7.mono hb6.size)).mono hbW.size)⟩
  ·have t1 : (ma == mb) = false := by simpa using hab
   have HRA := Lib.hid rA;have HRB := Lib.hid rB;have HC : ∃ cz, Hid (cz = cmpN a.natAbs b.natAbs) := ⟨_, rfl⟩;obtain ⟨cz, HC⟩ := HC;have BX := Lib.hid (Box2.mk c0 c1 c0f c1f);have BY := Lib.hid (Box2.mk d0 d1 d0f d1f);clear rA rB;go_wp2_with fail;refine (order_any _ _ _ a.natAbs b.natAbs HRA.out HRB.out).mono ?_;rintro e w6 ⟨_, rfl, rfl, j6, rfl⟩;rw [<- HC.out];go_upto_if 50 with fail;go_cut [] (fun wx => ∃ (m m2 : Bool) (p1 p2 : Option Addr) (k1 k2 c1 c2 : Nat), Box2 wx w5.heap.size (.bool m) (.slice p1 (lm B9 k1).length c1) /\ Box2 wx (w5.heap.size + 1) (.bool m2) (.slice p2 (lm B9 k2).length c2) /\
    Rd .u64 wx (.slice p1 (lm B9 k1).length c1) (lm B9 k1) /\ Rd .u64 wx (.slice p2 (lm B9 k2).length c2) (lm B9 k2) /\ k2 <= k1 /\ (lm B9 k1).length <= 100000 /\ Hid ((if m then -((k1 - k2 : Nat) : Int) else ((k1 - k2 : Nat) : Int)) = a + b) /\ Below w.heap.size w wx /\ w5.heap.size + 1 < wx.heap.size)
   case first =>
    have hbW6 : Below w.heap.size w (W.drewN j6) := hbW.trans ((below_drewN W j6).mono hbW.size);have BX6 : Hid (Box2 (W.drewN j6) w5.heap.size (.bool ma) (.slice pa (lm B9 a.natAbs).length ca)) := BX.out.below (below_drewN W j6);have BY6 : Hid (Box2 (W.drewN j6) (w5.heap.size + 1) (.bool mb) (.slice pb (lm B9 b.natAbs).length cb)) := BY.out.below (below_drewN W j6);have HA6 := Lib.hid (RdC.drewN HRA.out j6);have HB6 := Lib.hid (RdC.drewN HRB.out j6);have hs6 : w5.heap.size + 1 < (W.drewN j6).heap.size := hWs;have e0 := BX6.out.c0;have e1 := BX6.out.c1;have e0f := BX6.out.f0;have e1f := BX6.out.f1;have f0 := BY6.out.c0;have f1 := BY6.out.c1;have f0f := BY6.out.f0;have f1f := BY6.out.f1;generalize W.drewN j6 = Z at *;have hmm : mb = !ma := by cases ma <;> cases mb <;> simp at hab <;> rfl
    rcases Nat.lt_or_ge a.natAbs b.natAbs with hlt | hge
    ·have hcz : Hid (cz = -1) := by unfold Hid; rw [HC.out]; exact cmpN_lt hlt
     have hd : decide (cz < 0) = true := by rw [hcz.out]; rfl
     have hval : Hid ((if mb then -((b.natAbs - a.natAbs : Nat) : Int) else ((b.natAbs - a.natAbs : Nat) : Int)) = a + b) := by
      unfold Hid;have h1 := HMA.out;have h2 := HMB.out;rw [hmm] at h2 ⊢;cases ma
      ·have := of_decide_eq_false h1.symm
       have := of_decide_eq_true h2.symm;simp; omega
      ·have := of_decide_eq_true h1.symm
       have := of_decide_eq_false h2.symm;simp; omega
     have HMM := Lib.hid hmm;clear hmm;rw [hd];go_wp2_with fail;go_meet;have q1 := BX6.out.put (.bool mb) (.slice pb (lm B9 b.natAbs).length cb);have q2 : Box2 ((Z.setCell ⟨w5.heap.size, 0, none⟩ (.bool mb)).setCell ⟨w5.heap.size, 1, none⟩ (.slice pb (lm B9 b.natAbs).length cb)) (w5.heap.size + 1) (.bool mb) (.slice pb (lm B9 b.natAbs).length cb) :=
      (BY6.out.other (by omega) _ _).other (by omega) _ _
     have q3 := q2.put (.bool ma) (.slice pa (lm B9 a.natAbs).length ca);have q4 := (q1.other (show w5.heap.size + 1 ≠ w5.heap.size by omega) 0 (.bool ma)).other (show w5.heap.size + 1 ≠ w5.heap.size by omega) 1 (.slice pa (lm B9 a.natAbs).length ca);exact ⟨mb, ma, pb, pa, b.natAbs, a.natAbs, cb, ca, q4, q3, Rd.box (Rd.box HB6.out BX6.out _ _) q2 _ _, Rd.box (Rd.box HA6.out BX6.out _ _) q2 _ _, Nat.le_of_lt hlt, hlb, hval,
      (((hbW6.setCell hz5 _).setCell hz5 _).setCell (by show w.heap.size <= w5.heap.size + 1; omega) _).setCell (by show w.heap.size <= w5.heap.size + 1; omega) _, by simp [World.setCell]; exact hs6⟩
    ·have hcz : Hid (0 <= cz) := by unfold Hid; rw [HC.out]; unfold cmpN; rw [if_neg (by omega)]; split <;> omega
     have hd : decide (cz < 0) = false := by have := hcz.out; simp; omega
     have hval : Hid ((if ma then -((a.natAbs - b.natAbs : Nat) : Int) else ((a.natAbs - b.natAbs : Nat) : Int)) = a + b) := by
      unfold Hid;have h1 := HMA.out;have h2 := HMB.out;rw [hmm] at h2;cases ma
      ·have := of_decide_eq_false h1.symm
       have := of_decide_eq_true h2.symm;simp; omega
      ·have := of_decide_eq_true h1.symm
       have := of_decide_eq_false h2.symm;simp; omega
     have HMM := Lib.hid hmm;clear hmm;rw [hd];go_wp2_with fail;go_meet;exact ⟨ma, mb, pa, pb, a.natAbs, b.natAbs, ca, cb, BX6.out, BY6.out, HA6.out, HB6.out, hge, hla, hval, hbW6, hs6⟩
   case rest =>
    obtain ⟨m, m2, p1, p2, k1, k2, q1, q2, bx, by', r1, r2, hkk, hl1, hval, hbx, hsx⟩ := hcut;clear c0 c1 c0f c1f d0 d1 d0f d1f BX BY HRA HRB;have g0 := bx.c0;have g1 := bx.c1;have g2 := by'.c1;have hgc : Good wc := hg.below hbx;have hl9 : (lm B9 (k1 - k2)).length <= 1000000 := by
     refine Nat.le_trans (lm_len_le B9 _ (lm B9 k1).length two_le_B9 (Nat.lt_of_le_of_lt (Nat.sub_le _ _) (lm_len_lt B9 k1 two_le_B9))) (by omega)
    have HAd : Hid (Rd .u64 wc.drew (.slice p1 (lm B9 k1).length q1) (lm B9 k1)) := r1;have HBd : Hid (Rd .u64 wc.drew (.slice p2 (lm B9 k2).length q2) (lm B9 k2)) := r2;have HKK := Lib.hid hkk;clear r1 r2 bx by' hkk;go_wp2_with fail;go_region_held3 (fun w' => w'.cell? ⟨w5.heap.size, 0, none⟩ = some (.bool m) /\ w'.cell? ⟨w5.heap.size, 1, none⟩ = some (.slice p1 (lm B9 k1).length q1) /\ w'.cell? ⟨w5.heap.size + 1, 1, none⟩ = some (.slice p2 (lm B9 k2).length q2))
     (first | exact ⟨g0, g1, g2⟩ | exact ⟨e0, e1, f1⟩ | exact ⟨h0, h1, h2⟩)
     (first
     | (go_at_call 121; refine (minus_any _ _ _ k1 k2 HAd.out HBd.out HKK.out (by omega)).mono ?_; rintro e w6 ⟨v6, rfl, hv6, hb6⟩
        have e0 := zcq hb6 (show w5.heap.size < wc.heap.size by omega) g0;have e1 := zcq hb6 (show w5.heap.size < wc.heap.size by omega) g1;have f1 := zcq hb6 (show w5.heap.size + 1 < wc.heap.size by omega) g2;have hs6 := hb6.size;obtain ⟨p6, c6, rfl, hc6, hm6, hr6⟩ := hv6.open;clear hr6)
     | (go_at_call 119; refine (close_any _ _ m (k1 - k2) hv6 hl9 ((hgc.drewN 1).below hb6)).mono ?_; rintro e w7 ⟨_, rfl, rfl, hb7⟩; rw [hval.out]
        have h0 := zcq hb7 (by have h9 : wc.drew.heap.size = wc.heap.size := rfl; show w5.heap.size < _; omega) e0;have h1 := zcq hb7 (by have h9 : wc.drew.heap.size = wc.heap.size := rfl; show w5.heap.size < _; omega) e1;have h2 := (zcq hb7 (by have h9 : wc.drew.heap.size = wc.heap.size := rfl; show w5.heap.size + 1 < _; omega) f1 :)))
    all_goals
     go_wp2_with fail;go_ret;exact ⟨_, rfl, rfl, hbx.trans ((((below_drewN wc 1).trans hb6).trans (hb7.mono hb6.size)).mono hbx.size)⟩
theorem size_lim9 {n : Int} (h : (IS n).size <= 9) : -1000000000 < n /\ n < 1000000000 := by
 rw [IS_size] at h;have := natAbs_lt_of_len (k := 9) (by decide) h;omega
theorem mul_small {x y : Int} (hx : -1000000000 < x /\ x < 1000000000) (hy : -1000000000 < y /\ y < 1000000000) : -1000000000000000000 <= x * y /\ x * y <= 1000000000000000000 := by
 have h1 : x.natAbs * y.natAbs <= 1000000000 * 1000000000 := Nat.mul_le_mul (by omega) (by omega);rw [<- Int.natAbs_mul] at h1;omega
theorem lm_mul_len {a b n m : Nat} (ha : (lm B9 a).length <= n) (hb : (lm B9 b).length <= m) : (lm B9 (a * b)).length <= n + m := by
 refine lm_len_le B9 _ _ two_le_B9 ?_;have h1 := Nat.lt_of_lt_of_le (lm_len_lt B9 a two_le_B9) (Nat.pow_le_pow_right (show 0 < B9 by decide) ha);have h2 := Nat.lt_of_lt_of_le (lm_len_lt B9 b two_le_B9) (Nat.pow_le_pow_right (show 0 < B9 by decide) hb);rw [Nat.pow_add];exact Nat.mul_lt_mul_of_lt_of_le h1 (Nat.le_of_lt h2) (by have := Nat.pow_pos (n := m) (show 0 < B9 by decide); omega)
theorem sgn_mul {a b : Int} {ma mb : Bool} (h1 : ma = decide (a < 0)) (h2 : mb = decide (b < 0)) :
 (if (ma != mb) then -((a.natAbs * b.natAbs : Nat) : Int) else ((a.natAbs * b.natAbs : Nat) : Int)) = a * b := by
 have e : ((a.natAbs * b.natAbs : Nat) : Int) = (a.natAbs : Int) * (b.natAbs : Int) := Int.natCast_mul _ _;rw [e];cases ma <;> cases mb
 ·have := of_decide_eq_false h1.symm
  have := of_decide_eq_false h2.symm;rw [show (a.natAbs : Int) = a by omega, show (b.natAbs : Int) = b by omega]; rfl
 ·have := of_decide_eq_false h1.symm
  have := of_decide_eq_true h2.symm;rw [show (a.natAbs : Int) = a by omega, show (b.natAbs : Int) = -b by omega]; simp [Int.mul_neg]
 ·have := of_decide_eq_true h1.symm
  have := of_decide_eq_false h2.symm;rw [show (a.natAbs : Int) = -a by omega, show (b.natAbs : Int) = b by omega]; simp [Int.neg_mul]
 ·have := of_decide_eq_true h1.symm
  have := of_decide_eq_true h2.symm;rw [show (a.natAbs : Int) = -a by omega, show (b.natAbs : Int) = -b by omega]; simp [Int.mul_neg, Int.neg_mul]
theorem mul_any (a b : Int) (hsa : (IS a).size <= 100000) (hsb : (IS b).size <= 100000) (w : World) (hg : Good w) :
 Calls Tryz.prog 74 #[.string (IS a), .string (IS b)] w (Ret (fun v _ => v = .string (IS (a * b))) w) := by
 have hla := lm9_len hsa;have hlb := lm9_len hsb;go_enter Tryz.func74, Tryz.ntmps74;go_wp2_with fail;refine (quick_any a 9 (by omega) _).mono ?_;rintro e w1 ⟨_, rfl, ⟨x, one, rfl, hx⟩, hb1⟩;go_upto_if 16 with fail;go_cut [] (fun wx => Below w.heap.size w wx)
 case first =>
  cases one
  ·go_wp2_with fail
   go_meet;exact hb1
  ·obtain ⟨rfl, h1⟩ := hx rfl
   have k1 := size_lim9 (n := x) (by omega);go_wp2_with fail;refine (quick_any b 9 (by omega) _).mono ?_;rintro e w2 ⟨_, rfl, ⟨y, two, rfl, hy⟩, hb2⟩;have hb3 := hb1.trans (hb2.mono hb1.size);cases two
   ·go_wp2_with fail
    go_meet;exact hb3
   ·obtain ⟨rfl, h2⟩ := hy rfl
    have k2 := size_lim9 (n := y) (by omega);have k3 := mul_small k1 k2;go_wp2_with fail;refine (of_any (x * y) (by omega) (by omega) _ (hg.below hb3)).mono ?_;rintro e w3 ⟨_, rfl, rfl, hb4⟩;go_wp2_with fail;go_ret;exact ⟨_, rfl, rfl, hb3.trans (hb4.mono hb3.size)⟩
 case rest =>
  have hb3 := hcut;clear hcut;go_wp2_with fail;refine (open_any a hsa _).mono ?_;rintro e w4 ⟨_, rfl, ⟨va, rfl, hra⟩, hb4⟩;go_wp2_with fail;refine (open_any b hsb _).mono ?_;rintro e w5 ⟨_, rfl, ⟨vb, rfl, hrb⟩, hb5⟩;obtain ⟨pa, ca, rfl, hca, hma, hra'⟩ := hra.open;obtain ⟨pb, cb, rfl, hcb, hmb, hrb'⟩ := hrb.open;have HRA := Lib.hid (RdC.below hra hb5);have HRB := Lib.hid hrb;clear hra hrb hra' hrb';go_upto_region 7 with fail;obtain ⟨ma, hma'⟩ : ∃ ma, ma = decide (a < 0) := ⟨_, rfl⟩;obtain ⟨mb, hmb'⟩ : ∃ mb, mb = decide (b < 0) := ⟨_, rfl⟩;rw [<- hma', <- hmb'];have hz5 : w.heap.size <= w5.heap.size := by have := hb3.size; have := hb4.size; have := hb5.size; omega
  have hX0 : Below w.heap.size w w5 := hb3.trans ((hb4.trans (hb5.mono hb4.size)).mono hb3.size);generalize hW1 : w5.alloc (.cells #[.bool ma, .slice pa (lm B9 a.natAbs).length ca] 182) = W1;have x1 : Box2 W1 w5.heap.size (.bool ma) (.slice pa (lm B9 a.natAbs).length ca) := by rw [<- hW1]; exact box2_new _ _ _ _ _ rfl
  have hz1 : W1.heap.size = w5.heap.size + 1 := by rw [<- hW1]; simp
  have hB1 : Below w.heap.size w W1 := by rw [<- hW1]; exact hX0.alloc hz5 _
  have rA1 : Rd .u64 W1 (.slice pa (lm B9 a.natAbs).length ca) (lm B9 a.natAbs) := by rw [<- hW1]; exact HRA.out.alloc _
  have rB1 : Rd .u64 W1 (.slice pb (lm B9 b.natAbs).length cb) (lm B9 b.natAbs) := by rw [<- hW1]; exact HRB.out.alloc _
  generalize hW : W1.alloc (.cells #[.bool mb, .slice pb (lm B9 b.natAbs).length cb] 182) = W;have y1 : Box2 W (w5.heap.size + 1) (.bool mb) (.slice pb (lm B9 b.natAbs).length cb) := by rw [<- hW]; exact box2_new _ _ _ _ _ hz1
  have hBW1 : Below W1.heap.size W1 W := by rw [<- hW]; exact zal _ _
  have x2 := x1.below hBW1;have hbW : Below w.heap.size w W := hB1.trans (hBW1.mono (by omega));have rA : Rd .u64 W (.slice pa (lm B9 a.natAbs).length ca) (lm B9 a.natAbs) := RdC.below rA1 hBW1;have rB : Rd .u64 W (.slice pb (lm B9 b.natAbs).length cb) (lm B9 b.natAbs) := RdC.below rB1 hBW1;clear hW hW1 x1 hB1 rA1 rB1 hBW1 hz1 hX0 HRA HRB hb3 hb4 hb5;obtain ⟨c0, c1, c0f, c1f⟩ := x2;obtain ⟨d0, d1, d0f, d1f⟩ := y1;have hgW : Good W := hg.below hbW;have hWs : w5.heap.size + 1 < W.heap.size := World.block_lt_of_cell? W _ d0;have HV := Lib.hid (sgn_mul hma' hmb');clear hma' hmb';have hlab : (lm B9 (a.natAbs * b.natAbs)).length <= 1000000 := by
   have := lm_mul_len hla hlb;omega
  have HAd : Hid (Rd .u64 W.drew (.slice pa (lm B9 a.natAbs).length ca) (lm B9 a.natAbs)) := rA;have HBd : Hid (Rd .u64 W.drew (.slice pb (lm B9 b.natAbs).length cb) (lm B9 b.natAbs)) := rB;clear rA rB c0f c1f d0f d1f;go_region_held3 (fun w' => w'.cell? ⟨w5.heap.size, 0, none⟩ = some (.bool ma) /\ w'.cell? ⟨w5.heap.size, 1, none⟩ = some (.slice pa (lm B9 a.natAbs).length ca) /\ w'.cell? ⟨w5.heap.size + 1, 0, none⟩ = some (.bool mb) /\ w'.cell? ⟨w5.heap.size + 1, 1, none⟩ = some (.slice pb (lm B9 b.natAbs).length cb))
   (first | exact ⟨c0, c1, d0, d1⟩ | exact ⟨e0, e1, f0, f1⟩ | exact ⟨g0, g1, h0, h1⟩)
   (first
   | (go_at_call 122; refine (times_any _ _ _ a.natAbs b.natAbs HAd.out HBd.out (by omega) (by omega)).mono ?_; rintro e w6 ⟨v6, rfl, hv6, hb6⟩
      have e0 := zcq hb6 (show w5.heap.size < W.heap.size by omega) c0;have e1 := zcq hb6 (show w5.heap.size < W.heap.size by omega) c1;have f0 := zcq hb6 (show w5.heap.size + 1 < W.heap.size by omega) d0;have f1 := zcq hb6 (show w5.heap.size + 1 < W.heap.size by omega) d1;have hs6 := hb6.size;obtain ⟨p6, c6, rfl, hc6, hm6, hr6⟩ := hv6.open;clear hr6)
   | (go_at_call 119; refine (close_any _ _ (ma != mb) (a.natAbs * b.natAbs) hv6 hlab ((hgW.drewN 1).below hb6)).mono ?_; rintro e w7 ⟨_, rfl, rfl, hb7⟩; rw [HV.out]
      have g0 := zcq hb7 (by have h9 : W.drew.heap.size = W.heap.size := rfl; show w5.heap.size < _; omega) e0;have g1 := zcq hb7 (by have h9 : W.drew.heap.size = W.heap.size := rfl; show w5.heap.size < _; omega) e1;have h0 := zcq hb7 (by have h9 : W.drew.heap.size = W.heap.size := rfl; show w5.heap.size + 1 < _; omega) f0;have h1 := (zcq hb7 (by have h9 : W.drew.heap.size = W.heap.size := rfl; show w5.heap.size + 1 < _; omega) f1 :)))
  all_goals
   go_wp2_with fail;go_ret;exact ⟨_, rfl, rfl, hbW.trans ((((below_drewN W 1).trans hb6).trans (hb7.mono hb6.size)).mono hbW.size)⟩
def cmpZ (a b : Int) : Int := if a < b then -1 else if b < a then 1 else 0
theorem cmpZ_lt {a b : Int} (h : a < b) : cmpZ a b = -1 := by unfold cmpZ; rw [if_pos h]
theorem cmpZ_gt {a b : Int} (h : b < a) : cmpZ a b = 1 := by unfold cmpZ; rw [if_neg (by omega), if_pos h]
theorem len_lt_of {a b : Nat} (h : (decDigits a).length < (decDigits b).length) : a < b := by
 rcases Nat.lt_or_ge a b with h1 | h1
 ·exact h1
 ·have h2 := (len_decDigits_le b (decDigits a).length (List.length_pos_iff.2 (decDigits_ne_nil a))).2 (Nat.lt_of_le_of_lt h1 ((len_decDigits_le a _ (List.length_pos_iff.2 (decDigits_ne_nil a))).1 (Nat.le_refl _)))
  omega
theorem cmpZ_sign {a b : Int} (h : a.sign = b.sign) : cmpZ a b = a.sign * (if a.natAbs < b.natAbs then -1 else if b.natAbs < a.natAbs then 1 else 0) := by
 rcases Int.lt_trichotomy a 0 with ha | ha | ha
 ·rw [Int.sign_eq_neg_one_of_neg ha] at h ⊢
  have hb : b < 0 := Int.sign_eq_neg_one_iff_neg.1 h.symm;unfold cmpZ;split <;> split <;> first | omega | (split <;> first | omega | (split <;> omega)) | skip
  all_goals (try (split <;> omega))
 ·subst ha
  have hb : b = 0 := Int.sign_eq_zero_iff_zero.1 h.symm;subst hb;simp [cmpZ]
 ·rw [Int.sign_eq_one_of_pos ha] at h ⊢
  have hb : 0 < b := Int.sign_eq_one_iff_pos.1 h.symm;unfold cmpZ;rw [Int.one_mul];split <;> split <;> first | omega | (split <;> omega) | skip
  all_goals (try (split <;> omega))
theorem compare_any (a b : Int) (hsa : (IS a).size <= 100000) (hsb : (IS b).size <= 100000) (w : World) :
 Calls Tryz.prog 83 #[.string (IS a), .string (IS b)] w (Same (fun v => v = .int .i64 (cmpZ a b)) w) := by
 have hsg : ∀ n : Int, -1 <= n.sign /\ n.sign <= 1 := fun n => by
  rcases Int.lt_trichotomy n 0 with h | h | h
  ·rw [Int.sign_eq_neg_one_of_neg h]; omega
  ·subst h; decide
  ·rw [Int.sign_eq_one_of_pos h]; omega
 obtain ⟨sa, hsa'⟩ : ∃ sa, sa = a.sign := ⟨_, rfl⟩;obtain ⟨sb, hsb'⟩ : ∃ sb, sb = b.sign := ⟨_, rfl⟩;have b1 := hsg a;have b2 := hsg b;rw [<- hsa'] at b1;rw [<- hsb'] at b2;have HSA := Lib.hid hsa';have HSB := Lib.hid hsb';have HLT : Hid (sa < sb -> a < b) := by
  unfold Hid; intro h;rw [HSA.out, HSB.out] at h;rcases Int.lt_or_le a b with h1 | h1
  ·exact h1
  ·exfalso
   rcases Int.lt_trichotomy a 0 with ha | ha | ha
   ·have hb : b < 0 := by omega
    rw [Int.sign_eq_neg_one_of_neg ha, Int.sign_eq_neg_one_of_neg hb] at h; omega
   ·subst ha
    have := hsg b;rcases Int.lt_or_le b 0 with hb | hb
    ·rw [Int.sign_eq_neg_one_of_neg hb] at h; simp at h
    ·have hb0 : b = 0 := by omega
     subst hb0; omega
   ·rw [Int.sign_eq_one_of_pos ha] at h
    have := hsg b; omega
 have HGT : Hid (sb < sa -> b < a) := by
  unfold Hid; intro h;rw [HSA.out, HSB.out] at h;rcases Int.lt_or_le b a with h1 | h1
  ·exact h1
  ·exfalso
   rcases Int.lt_trichotomy b 0 with ha | ha | ha
   ·have hb : a < 0 := by omega
    rw [Int.sign_eq_neg_one_of_neg ha, Int.sign_eq_neg_one_of_neg hb] at h; omega
   ·subst ha
    rcases Int.lt_or_le a 0 with hb | hb
    ·rw [Int.sign_eq_neg_one_of_neg hb] at h; simp at h
    ·have hb0 : a = 0 := by omega
     subst hb0; omega
   ·rw [Int.sign_eq_one_of_pos ha] at h
    have := hsg a; omega
 clear hsg hsa' hsb';go_enter Tryz.func83, Tryz.ntmps83;go_wp2_with fail;refine (sign_any a _).mono ?_;rintro e w1 ⟨_, rfl, rfl, rfl⟩;rw [<- HSA.out];go_wp2_with fail;refine (sign_any b _).mono ?_;rintro e w1 ⟨_, rfl, rfl, rfl⟩;rw [<- HSB.out];rcases Int.lt_trichotomy sa sb with h | h | h
 ·have t1 : (sa != sb) = true := by rw [bne_iff_ne]; omega
  have hv := Lib.hid (cmpZ_lt (HLT.out h));go_wp2_with fail;go_ret;exact ⟨_, rfl, congrArg (Value.int .i64) hv.out.symm, rfl⟩
 ·subst h
  have t1 : (sa != sa) = false := by simp
  have HV := Lib.hid (cmpZ_sign (HSA.out.symm.trans HSB.out));have la : (BS (decDigits a.natAbs)).size <= 100000 := by
   have := itoa_len a;rw [IS_size] at hsa;rw [BS_size, decDigits_length]; split at this <;> omega
  have lb : (BS (decDigits b.natAbs)).size <= 100000 := by
   have := itoa_len b;rw [IS_size] at hsb;rw [BS_size, decDigits_length]; split at this <;> omega
  go_wp2_with fail;refine (trimMinus_any _ _).mono ?_;rintro e w1 ⟨_, rfl, rfl, rfl⟩;rw [trim_IS];go_wp2_with fail;refine (trimMinus_any _ _).mono ?_;rintro e w1 ⟨_, rfl, rfl, rfl⟩;rw [trim_IS];have HDa := Lib.hid (decDigits_dig a.natAbs);have HDb := Lib.hid (decDigits_dig b.natAbs);have HVa := Lib.hid (dval_decDigits a.natAbs);have HVb := Lib.hid (dval_decDigits b.natAbs);have HLa := Lib.hid (BS_size (decDigits a.natAbs));have HLb := Lib.hid (BS_size (decDigits b.natAbs));rcases Nat.lt_trichotomy (BS (decDigits a.natAbs)).size (BS (decDigits b.natAbs)).size with h2 | h2 | h2
  ·have t2 : (((BS (decDigits a.natAbs)).size : Int) != ((BS (decDigits b.natAbs)).size : Int)) = true := by rw [bne_iff_ne]; omega
   have hlt : Hid (a.natAbs < b.natAbs) := len_lt_of (by rw [<- HLa.out, <- HLb.out]; exact h2);have hv : Hid (-sa = cmpZ a b) := by unfold Hid; rw [HV.out, if_pos hlt.out, <- HSA.out]; omega
   go_wp2_with fail;go_ret;exact ⟨_, rfl, congrArg (Value.int .i64) hv.out, rfl⟩
  ·have t2 : (((BS (decDigits a.natAbs)).size : Int) != ((BS (decDigits b.natAbs)).size : Int)) = false := by rw [bne_eq_false_iff_eq]; omega
   have HL2 := Lib.hid h2;have HC : Hid (compareBytes (BS (decDigits a.natAbs)).data.toList (BS (decDigits b.natAbs)).data.toList = (if a.natAbs < b.natAbs then -1 else if b.natAbs < a.natAbs then 1 else 0)) := by
    unfold Hid;rw [BS_list, BS_list, compareBytes_dig _ _ HDa.out HDb.out (by rw [<- HLa.out, <- HLb.out]; exact h2), HVa.out, HVb.out]
   clear h2;obtain ⟨cz, hcz⟩ : ∃ cz : Int, cz = (if a.natAbs < b.natAbs then -1 else if b.natAbs < a.natAbs then 1 else 0) := ⟨_, rfl⟩;have hcz1 : -1 <= cz /\ cz <= 1 := by rw [hcz]; split; omega; split <;> omega
   have hv : Hid (sa * cz = cmpZ a b) := by unfold Hid; rw [HV.out, hcz, <- HSA.out]
   have hm : -1 <= sa * cz /\ sa * cz <= 1 := by
    rcases (by omega : sa = -1 \/ sa = 0 \/ sa = 1) with e | e | e <;> rw [e] <;> omega
   have HCZ := Lib.hid hcz;clear hcz;go_wp2_with fail;refine (scompare_any _ _ _).mono ?_;rintro e w1 ⟨_, rfl, rfl, rfl⟩;rw [HC.out, <- HCZ.out];go_wp2_with fail;go_ret;exact ⟨_, rfl, congrArg (Value.int .i64) hv.out, rfl⟩
  ·have t2 : (((BS (decDigits a.natAbs)).size : Int) != ((BS (decDigits b.natAbs)).size : Int)) = true := by rw [bne_iff_ne]; omega
   have hlt : Hid (b.natAbs < a.natAbs) := len_lt_of (by rw [<- HLa.out, <- HLb.out]; exact h2);have hv : Hid (sa = cmpZ a b) := by unfold Hid; have := hlt.out; rw [HV.out, if_neg (by omega), if_pos hlt.out, <- HSA.out]; omega
   go_wp2_with fail;go_ret;exact ⟨_, rfl, congrArg (Value.int .i64) hv.out, rfl⟩
 ·have t1 : (sa != sb) = true := by rw [bne_iff_ne]; omega
  have hv := Lib.hid (cmpZ_gt (HGT.out h));go_wp2_with fail;go_ret;exact ⟨_, rfl, congrArg (Value.int .i64) hv.out.symm, rfl⟩
theorem divide_any (w : World) (va vb : Value) (a b : Nat) (ha : Rd .u64 w va (lm B9 a)) (hb : Rd .u64 w vb (lm B9 b)) (hb0 : 0 < b) (hlen : (lm B9 a).length <= 900000) :
 Calls Tryz.prog 153 #[va, vb] w (Ret (QR (a / b) (a % b)) w) := by
 rcases Nat.lt_or_ge a b with h | h
 ·have := divide_less w va vb a b ha hb h
  exact this
 ·rcases Nat.lt_or_ge b B9 with h9 | h9
  ·exact divide_one w va vb a b ha hb h hb0 h9 (by omega)
  ·exact divide_more w va vb a b ha hb h h9 hlen
theorem divmod_eq {a b : Int} (hb : b ≠ 0) {ma mb : Bool} (h1 : ma = decide (a < 0)) (h2 : mb = decide (b < 0)) {d m : Nat}
 (hd : d = if ma = true /\ 0 < a.natAbs % b.natAbs then a.natAbs / b.natAbs + 1 else a.natAbs / b.natAbs)
 (hm : m = if ma = true /\ 0 < a.natAbs % b.natAbs then b.natAbs - a.natAbs % b.natAbs else a.natAbs % b.natAbs) :
 (if (ma != mb) then -(d : Int) else (d : Int)) = a / b /\ (m : Int) = a % b := by
 have hB : 0 < b.natAbs := by omega
 have hlt := Nat.mod_lt a.natAbs hB;have hdm := Nat.div_add_mod a.natAbs b.natAbs;generalize hBe : b.natAbs = B at *;generalize a.natAbs % B = r at *;generalize a.natAbs / B = q at *;have key : ∀ s : Int, s = (if ma then -(d : Int) else (d : Int)) -> s = a / (B : Int) /\ (m : Int) = a % (B : Int) := by
  intro s hs;have hBp : (0 : Int) < (B : Int) := by omega
  have := (Int.ediv_emod_unique (a := a) (b := (B : Int)) (r := (m : Int)) (q := s) hBp).2 ?_
  ·exact ⟨this.1.symm, this.2.symm⟩
  ·have hcast : (B : Int) * (q : Int) + (r : Int) = (a.natAbs : Int) := by rw [<- hdm]; push_cast; rfl
   cases ma
   ·have ha := of_decide_eq_false h1.symm
    simp only [Bool.false_eq_true, false_and, if_false] at hd hm hs;subst hd; subst hm; subst hs;refine ⟨by omega, by omega, by omega⟩
   ·have ha := of_decide_eq_true h1.symm
    by_cases hr : 0 < r
    ·simp only [hr, and_self, if_true] at hd hm hs
     subst hd; subst hm; subst hs;refine ⟨?_, by omega, by omega⟩;have e1 : ((B - r : Nat) : Int) = (B : Int) - r := by omega
     rw [e1];push_cast;rw [Int.mul_neg, Int.mul_add];omega
    ·simp only [hr, and_false, if_false, if_true] at hd hm hs
     subst hd; subst hm; subst hs;refine ⟨?_, by omega, by omega⟩;rw [Int.mul_neg];omega
 obtain ⟨k1, k2⟩ := key _ rfl;cases mb
 ·have hb2 := of_decide_eq_false h2.symm
  have e : (B : Int) = b := by omega
  rw [e] at k1 k2;refine ⟨?_, k2⟩;rw [<- k1];cases ma <;> rfl
 ·have hb2 := of_decide_eq_true h2.symm
  have e : (B : Int) = -b := by omega
  rw [e, Int.ediv_neg] at k1;rw [e, Int.emod_neg] at k2;refine ⟨?_, k2⟩;cases ma
  ·simp only [Bool.false_eq_true, if_false] at k1
   simp; omega
  ·simp only [if_true] at k1
   simp; omega
theorem divmod_any (a b : Int) (hsa : (IS a).size <= 100000) (hsb : (IS b).size <= 100000) (hb0 : b ≠ 0) (w : World) (hg : Good w) :
 Calls Tryz.prog 114 #[.string (IS a), .string (IS b)] w (Ret (fun v _ => v = .tuple #[.string (IS (a / b)), .string (IS (a % b)), .int .i64 0]) w) := by
 have hla := lm9_len hsa;have hlb := lm9_len hsb;have hbz : ((IS b).toList == [48]) = false := by rw [IS_eq48]; exact decide_eq_false hb0
 have HB0 : Hid (0 < b.natAbs) := by unfold Hid; omega
 have HB9 := Lib.hid hb0;clear hb0;go_enter Tryz.func114, Tryz.ntmps114;go_wp2_with fail;refine (open_any a hsa _).mono ?_;rintro e w4 ⟨_, rfl, ⟨va, rfl, hra⟩, hb4⟩;go_wp2_with fail;refine (open_any b hsb _).mono ?_;rintro e w5 ⟨_, rfl, ⟨vb, rfl, hrb⟩, hb5⟩;obtain ⟨pa, ca, rfl, hca, hma, hra'⟩ := hra.open;obtain ⟨pb, cb, rfl, hcb, hmb, hrb'⟩ := hrb.open;have HRA := Lib.hid (RdC.below hra hb5);have HRB := Lib.hid hrb;clear hra hrb hra' hrb';go_upto_region 4 with fail;obtain ⟨ma, hma'⟩ : ∃ ma, ma = decide (a < 0) := ⟨_, rfl⟩;obtain ⟨mb, hmb'⟩ : ∃ mb, mb = decide (b < 0) := ⟨_, rfl⟩;rw [<- hma', <- hmb'];have hz5 : w.heap.size <= w5.heap.size := by have := hb4.size; have := hb5.size; omega
 have hX0 : Below w.heap.size w w5 := hb4.trans (hb5.mono hb4.size);generalize hW1 : w5.alloc (.cells #[.bool ma, .slice pa (lm B9 a.natAbs).length ca] 182) = W1;have x1 : Box2 W1 w5.heap.size (.bool ma) (.slice pa (lm B9 a.natAbs).length ca) := by rw [<- hW1]; exact box2_new _ _ _ _ _ rfl
 have hz1 : W1.heap.size = w5.heap.size + 1 := by rw [<- hW1]; simp
 have hB1 : Below w.heap.size w W1 := by rw [<- hW1]; exact hX0.alloc hz5 _
 have rA1 : Rd .u64 W1 (.slice pa (lm B9 a.natAbs).length ca) (lm B9 a.natAbs) := by rw [<- hW1]; exact HRA.out.alloc _
 have rB1 : Rd .u64 W1 (.slice pb (lm B9 b.natAbs).length cb) (lm B9 b.natAbs) := by rw [<- hW1]; exact HRB.out.alloc _
 generalize hW : W1.alloc (.cells #[.bool mb, .slice pb (lm B9 b.natAbs).length cb] 182) = W;have y1 : Box2 W (w5.heap.size + 1) (.bool mb) (.slice pb (lm B9 b.natAbs).length cb) := by rw [<- hW]; exact box2_new _ _ _ _ _ hz1
 have hBW1 : Below W1.heap.size W1 W := by rw [<- hW]; exact zal _ _
 have x2 := x1.below hBW1;have hbW : Below w.heap.size w W := hB1.trans (hBW1.mono (by omega));have rA : Rd .u64 W (.slice pa (lm B9 a.natAbs).length ca) (lm B9 a.natAbs) := RdC.below rA1 hBW1;have rB : Rd .u64 W (.slice pb (lm B9 b.natAbs).length cb) (lm B9 b.natAbs) := RdC.below rB1 hBW1;clear hW hW1 x1 hB1 rA1 rB1 hBW1 hz1 hX0 HRA HRB hb4 hb5;obtain ⟨c0, c1, c0f, c1f⟩ := x2;obtain ⟨d0, d1, d0f, d1f⟩ := y1;have hgW : Good W := hg.below hbW;have hWs : w5.heap.size + 1 < W.heap.size := World.block_lt_of_cell? W _ d0;have HEQ : Hid (∀ d m : Nat, (d = if ma = true /\ 0 < a.natAbs % b.natAbs then a.natAbs / b.natAbs + 1 else a.natAbs / b.natAbs) -> (m = if ma = true /\ 0 < a.natAbs % b.natAbs then b.natAbs - a.natAbs % b.natAbs else a.natAbs % b.natAbs) ->
  (if (ma != mb) then -(d : Int) else (d : Int)) = a / b /\ (m : Int) = a % b) := fun d m h3 h4 => divmod_eq HB9.out hma' hmb' h3 h4
 have hltm : a.natAbs % b.natAbs < b.natAbs := Nat.mod_lt _ HB0.out;clear hma' hmb';have HRA := Lib.hid rA;have HRB := Lib.hid rB;clear rA rB;go_wp2_with fail;refine (divide_any _ _ _ a.natAbs b.natAbs HRA.out HRB.out HB0.out (by omega)).mono ?_;rintro e w6 ⟨_, rfl, ⟨vq, vr, rfl, hq, hr⟩, hb6⟩;generalize hrr : a.natAbs % b.natAbs = r at *;generalize hqq : a.natAbs / b.natAbs = q at *;have hlq : (lm B9 q).length <= 100000 := by
  refine Nat.le_trans (lm_len_le B9 q _ two_le_B9 (Nat.lt_of_le_of_lt ?_ (lm_len_lt B9 a.natAbs two_le_B9))) hla;rw [<- hqq]; exact Nat.div_le_self _ _
 have hlr : (lm B9 r).length <= 100000 := Nat.le_trans (lm_len_le B9 r _ two_le_B9 (Nat.lt_trans hltm (lm_len_lt B9 b.natAbs two_le_B9))) hlb;obtain ⟨pq, cq, rfl, hcq, hmq, hq'⟩ := hq.open;obtain ⟨pr, cr, rfl, hcr, hmr, hr'⟩ := hr.open;have hX : w5.heap.size < W.heap.size := by omega
 have e0 := zcq hb6 hX c0;have e1 := zcq hb6 hX c1;have f0 := zcq hb6 hWs d0;have f1 := zcq hb6 hWs d1;have HRB6 : Hid (Rd .u64 w6 (.slice pb (lm B9 b.natAbs).length cb) (lm B9 b.natAbs)) := RdC.below HRB.out hb6;have hbW6 : Below w.heap.size w w6 := hbW.trans (hb6.mono hbW.size);have hs6 : w5.heap.size + 1 < w6.heap.size := Nat.lt_of_lt_of_le hWs hb6.size;have HQ := Lib.hid hq;have HR := Lib.hid hr;have hg6 := hgW.below hb6;have HRR := Lib.hid hrr;have HQQ := Lib.hid hqq;clear c0 c1 d0 d1 c0f c1f d0f d1f HRA HRB hq hr hq' hr' hb6 hbW hgW hrr hqq hWs;go_upto_region 5 with fail;by_cases hneg : ma = true /\ 0 < r
 ·obtain ⟨rfl, hr0⟩ := hneg
  have hl0 : 0 < (lm B9 r).length := List.length_pos_iff.2 (lm_ne_nil B9 r two_le_B9 hr0);have HF : Hid ((if (!mb) then -((q + 1 : Nat) : Int) else ((q + 1 : Nat) : Int)) = a / b /\ ((b.natAbs - r : Nat) : Int) = a % b) := by
   have := HEQ.out (q + 1) (b.natAbs - r) (by simp [hr0]) (by simp [hr0]);rwa [Bool.true_bne] at this
  have hone : Rd .u64 (w6.drew.alloc (.cells #[.int .u64 1] 215)) (.slice (some ⟨w6.heap.size, 0, none⟩) 1 1) (lm B9 1) := by
   have e : lm B9 1 = [1] := by
    rw [lm_pos B9 1 two_le_B9 (by decide), show 1 / B9 = 0 from rfl, lm_zero]; rfl
   rw [e];exact rd_one _ _ 1 1 rfl (by show (w6.drew.alloc _).cell? ⟨w6.drew.heap.size, 0, none⟩ = _; rw [World.cell?_alloc_at _ _ _ _ rfl]; rfl)
  have HONE := Lib.hid hone;clear hone;have HQd : Hid (Rd .u64 (w6.drew.alloc (.cells #[.int .u64 1] 215)) (.slice pq (lm B9 q).length cq) (lm B9 q)) := RdC.alloc (RdC.drewN HQ.out 1) _;have HRd : Hid (Rd .u64 (w6.drew.alloc (.cells #[.int .u64 1] 215)) (.slice pr (lm B9 r).length cr) (lm B9 r)) := RdC.alloc (RdC.drewN HR.out 1) _;have HBd : Hid (Rd .u64 (w6.drew.alloc (.cells #[.int .u64 1] 215)) (.slice pb (lm B9 b.natAbs).length cb) (lm B9 b.natAbs)) := RdC.alloc (RdC.drewN HRB6.out 1) _;have hsd : (w6.drew.alloc (.cells #[.int .u64 1] 215)).heap.size = w6.heap.size + 1 := by simp
  have f1d : (w6.drew.alloc (.cells #[.int .u64 1] 215)).cell? ⟨w5.heap.size + 1, 1, none⟩ = some (.slice pb (lm B9 b.natAbs).length cb) := cell_alloc_l (W := w6.drew) _ f1;have e0d : (w6.drew.alloc (.cells #[.int .u64 1] 215)).cell? ⟨w5.heap.size, 0, none⟩ = some (.bool true) := cell_alloc_l (W := w6.drew) _ e0;have f0d : (w6.drew.alloc (.cells #[.int .u64 1] 215)).cell? ⟨w5.heap.size + 1, 0, none⟩ = some (.bool mb) := cell_alloc_l (W := w6.drew) _ f0;have hbd : Below w6.heap.size w6 (w6.drew.alloc (.cells #[.int .u64 1] 215)) := (below_drewN w6 1).alloc (Nat.le_refl _) _;have l1 : (lm B9 1).length <= 1000000 := by
   have := lm_len_le B9 1 1 two_le_B9 (by decide); omega
  have HLE : Hid (r <= b.natAbs) := Nat.le_of_lt hltm;have HSD := Lib.hid hsd;clear hsd;go_wp2_with fail;go_region_held3 (fun w' => w'.cell? ⟨w5.heap.size + 1, 1, none⟩ = some (.slice pb (lm B9 b.natAbs).length cb))
   (first | exact f1 | exact f1d | exact p1 | exact m1)
   (first
   | (go_at_call 118; refine (plus_any _ _ _ q 1 HQd.out HONE.out (by omega) l1).mono ?_; rintro e w7 ⟨v7, rfl, hv7, hb7⟩
      have p1 := zcq hb7 (by have := HSD.out; show w5.heap.size + 1 < _; omega) f1d;have p2 := zcq hb7 (by have := HSD.out; show w5.heap.size < _; omega) e0d;have p3 := zcq hb7 (by have := HSD.out; show w5.heap.size + 1 < _; omega) f0d;have hs7 := hb7.size;have HR7 := Lib.hid (RdC.below HRd.out hb7);have HB7 := Lib.hid (RdC.below HBd.out hb7);obtain ⟨p7, c7, rfl, hc7, hm7, hr7⟩ := hv7.open;clear hr7)
   | (go_at_call 121; refine (minus_any _ _ _ b.natAbs r HB7.out HR7.out HLE.out (by omega)).mono ?_; rintro e w8 ⟨v8, rfl, hv8, hb8⟩
      have m1 := zcq hb8 (by have := HSD.out; show w5.heap.size + 1 < _; omega) p1;have m2 := zcq hb8 (by have := HSD.out; show w5.heap.size < _; omega) p2;have m3 := zcq hb8 (by have := HSD.out; show w5.heap.size + 1 < _; omega) p3;have HQ8 := Lib.hid (RdC.below hv7 hb8);obtain ⟨p8, c8, rfl, hc8, hm8, hr8⟩ := hv8.open;clear hr8))
  all_goals
   have hbd8 : Below w.heap.size w w8 := hbW6.trans ((hbd.trans ((hb7.trans (hb8.mono hb7.size)).mono hbd.size)).mono hbW6.size);have hg8 := hg.below hbd8;have hlq1 : (lm B9 (q + 1)).length <= 1000000 := by
    have := lm_add_len hlq (show (lm B9 1).length <= 100000 by have := lm_len_le B9 1 1 two_le_B9 (by decide); omega); omega
   have hlr1 : (lm B9 (b.natAbs - r)).length <= 1000000 := by
    refine Nat.le_trans (lm_len_le B9 _ (lm B9 b.natAbs).length two_le_B9 (Nat.lt_of_le_of_lt (Nat.sub_le _ _) (lm_len_lt B9 b.natAbs two_le_B9))) (by omega)
   have HV8 := Lib.hid hv8;have HB8 := Lib.hid hb8;clear hv7 hv8 hb7 p1 p2 p3 hb8;go_wp2_with fail;refine (close_any _ _ (!mb) (q + 1) HQ8.out hlq1 hg8).mono ?_;rintro e w9 ⟨_, rfl, rfl, hb9⟩;rw [HF.out.1];go_wp2_with fail;refine (close_any _ _ false (b.natAbs - r) (RdC.below HV8.out hb9) hlr1 (hg8.below hb9)).mono ?_;rintro e w10 ⟨_, rfl, rfl, hb10⟩;rw [show (if false then -((b.natAbs - r : Nat) : Int) else ((b.natAbs - r : Nat) : Int)) = a % b from HF.out.2];go_wp2_with fail
   go_ret3
   exact ⟨_, rfl, rfl, hbd8.trans ((hb9.trans (hb10.mono hb9.size)).mono hbd8.size)⟩
 ·have hz : ma = true -> (lm B9 r).length = 0 := fun h => by
   have : r = 0 := by
    rcases Nat.eq_zero_or_pos r with h0 | h0
    ·exact h0
    ·exact absurd ⟨h, h0⟩ hneg
   rw [this, lm_zero]; rfl
  have HF : Hid ((if (ma != mb) then -(q : Int) else (q : Int)) = a / b /\ (r : Int) = a % b) := HEQ.out q r (by rw [if_neg hneg]) (by rw [if_neg hneg]);have hl6 : (lm B9 r).length <= 1000000 := by omega
  have hl7 : (lm B9 q).length <= 1000000 := by omega
  have HZ := Lib.hid hz;clear hz hneg;obtain ⟨mm, hmm⟩ : ∃ mm, mm = (ma != mb) := ⟨_, rfl⟩;rw [<- hmm] at HF;cases ma
  case' true =>
   have hl0 : ¬ 0 < (lm B9 r).length := by have := HZ.out rfl; omega
   have HM : Hid (mm = !mb) := by unfold Hid; rw [hmm]; cases mb <;> rfl
  case' false =>
   have HM : Hid (mm = mb) := by unfold Hid; rw [hmm]; cases mb <;> rfl
  all_goals
   clear hmm;go_wp2_with fail;rw [<- HM.out];refine (close_any _ _ mm q HQ.out hl7 hg6).mono ?_;rintro e w9 ⟨_, rfl, rfl, hb9⟩;rw [HF.out.1];go_wp2_with fail;refine (close_any _ _ false r (RdC.below HR.out hb9) hl6 (hg6.below hb9)).mono ?_;rintro e w10 ⟨_, rfl, rfl, hb10⟩;rw [show (if false then -(r : Int) else (r : Int)) = a % b from HF.out.2];go_wp2_with fail
   go_ret3
   exact ⟨_, rfl, rfl, hbW6.trans ((hb9.trans (hb10.mono hb9.size)).mono hbW6.size)⟩
theorem tmod_natAbs (x y : Int) : (x.tmod y).natAbs = x.natAbs % y.natAbs := by
 rw [Int.natAbs_tmod]
theorem gcd_step (x y : Nat) : Nat.gcd y (x % y) = Nat.gcd x y := by
 rw [Nat.gcd_comm x y, Nat.gcd_rec y x];rw [Nat.gcd_comm]
theorem fld_number1 (x y : Value) (w : World) : (Instr.field 182 (.agg #[x, y]) 1).run Tryz.prog w = .ok y w := by kernel_rfl
theorem gcd_any (a b : Int) (hsa : (IS a).size <= 100000) (hsb : (IS b).size <= 100000) (w : World) (hg : Good w) :
 Calls Tryz.prog 110 #[.string (IS a), .string (IS b)] w (Ret (fun v _ => v = .string (IS (Int.gcd a b : Nat))) w) := by
 have hla := lm9_len hsa;have hlb := lm9_len hsb;go_enter Tryz.func110, Tryz.ntmps110;go_wp2_with fail;refine (quick_any a 18 (by omega) _).mono ?_;rintro e w1 ⟨_, rfl, ⟨x, one, rfl, hx⟩, hb1⟩;go_upto_if 18 with fail;go_cut [] (fun wx => Below w.heap.size w wx)
 case first =>
  cases one
  ·go_wp2_with fail
   go_meet;exact hb1
  ·obtain ⟨rfl, h1⟩ := hx rfl
   have k1 := size_lim (n := x) (by omega);go_wp2_with fail;refine (quick_any b 18 (by omega) _).mono ?_;rintro e w2 ⟨_, rfl, ⟨y, two, rfl, hy⟩, hb2⟩;have hb3 := hb1.trans (hb2.mono hb1.size);cases two
   ·go_wp2_with fail
    go_meet;exact hb3
   ·obtain ⟨rfl, h2⟩ := hy rfl
    have k2 := size_lim (n := y) (by omega);have hg3 := hg.below hb3;go_wp2_with fail;go_loopw [5, 7] (fun t5 t7 wr => ∃ m n : Int, t5 = .int .i64 m /\ t7 = .int .i64 n /\ Hid (Nat.gcd m.natAbs n.natAbs = Int.gcd x y) /\ (-1000000000000000000 < m /\ m < 1000000000000000000) /\ (-1000000000000000000 < n /\ n < 1000000000000000000) /\ ∃ j, wr = w2.drewN j) (fun _ t7 _ => (RowKit.intOf t7).natAbs)
    case atStart => exact ⟨x, y, rfl, rfl, rfl, k1, k2, 0, rfl⟩
    case round =>
     obtain ⟨m, n, rfl, rfl, HG, hm, hn, j, rfl⟩ := hrel;by_cases hz : n = 0
     ·subst hz
      have HR : Hid (max m (-m) = ((Int.gcd x y : Nat) : Int)) := by
           unfold Hid;have := HG.out;rw [Int.natAbs_zero, Nat.gcd_zero_right] at this;omega
      have hgb : ((Int.gcd x y : Nat) : Int) < 1000000000000000000 := by rw [<- HR.out]; omega
      go_wp2_with fail;rw [HR.out];refine (of_any _ (by omega) (by omega) _ (hg3.drewN j)).mono ?_;rintro e w3 ⟨_, rfl, rfl, hb4⟩;go_wp2_with fail;go_ret;exact ⟨_, rfl, rfl, hb3.trans (((below_drewN w2 j).trans hb4).mono hb3.size)⟩
     ·have hz1 : (n != 0) = true := by rw [bne_iff_ne]; exact hz
      have hlt : (m.tmod n).natAbs < n.natAbs := by rw [tmod_natAbs]; exact Nat.mod_lt _ (by omega)
      have HN : Hid (Nat.gcd n.natAbs (m.tmod n).natAbs = Int.gcd x y) := by
           unfold Hid; rw [tmod_natAbs, gcd_step]; exact HG.out
      have hn2 : -1000000000000000000 < m.tmod n /\ m.tmod n < 1000000000000000000 := by omega
      go_wp2_with fail;go_quiet (fail);go_wp2_with fail;go_roundw
      case rel => exact ⟨n, m.tmod n, rfl, rfl, HN, hn, hn2, dr_step ⟨j, rfl⟩ _⟩
      case measure => exact hlt
 case rest =>
  have hb3 := hcut;clear hcut;have hfl := fld_number1;go_wp2_with fail;refine (open_any a hsa _).mono ?_;rintro e w4 ⟨_, rfl, ⟨va, rfl, hra⟩, hb4⟩;obtain ⟨pa, ca, rfl, hca, hma, hra'⟩ := hra.open;go_wp2_with fail;refine (open_any b hsb _).mono ?_;rintro e w5 ⟨_, rfl, ⟨vb, rfl, hrb⟩, hb5⟩;obtain ⟨pb, cb, rfl, hcb, hmb, hrb'⟩ := hrb.open;have hRA := RdC.below hra hb5;have hbW : Below w.heap.size w w5 := hb3.trans ((hb4.trans (hb5.mono hb4.size)).mono hb3.size);clear hra hra' hrb' hb4 hb5 hb3;go_wp2_with fail
  go_loopg [9, 10] b.natAbs (fun n t9 t10 wr => ∃ (m : Nat) (p q : Option Addr) (c d : Nat), t9 = .slice p (lm B9 m).length c /\ t10 = .slice q (lm B9 n).length d /\ Hid (Nat.gcd m n = Int.gcd a b) /\ (lm B9 m).length <= 100000 /\ (lm B9 n).length <= 100000 /\ Rd .u64 wr t9 (lm B9 m) /\ Rd .u64 wr t10 (lm B9 n) /\ Below w.heap.size w wr)
  case atStart => exact ⟨a.natAbs, pa, pb, ca, cb, rfl, rfl, rfl, hla, hlb, hRA, hrb, hbW⟩
  case round =>
   clear hRA hrb hbW;obtain ⟨m, p, q, c, d, rfl, rfl, HG, hlm, hln, hrm, hrn, hnx⟩ := hrel;rcases Nat.eq_zero_or_pos gk with h0 | hpos
   ·subst h0
    have HR : Hid ((if false then -(m : Int) else (m : Int)) = ((Int.gcd a b : Nat) : Int)) := by
     unfold Hid; rw [<- HG.out, Nat.gcd_zero_right]; rfl
    have hll : ¬ 0 < (lm B9 0).length := by rw [lm_zero]; simp
    have hlm6 : (lm B9 m).length <= 1000000 := by omega
    have HRM := Lib.hid hrm;have hgr := hg.below hnx;clear hrm hrn;go_wp2_with fail;refine (close_any _ _ false m HRM.out hlm6 hgr).mono ?_;rintro e w6 ⟨_, rfl, rfl, hb6⟩;rw [HR.out];go_wp2_with fail;go_ret;exact ⟨_, rfl, rfl, hnx.trans (hb6.mono hnx.size)⟩
   ·have hll : 0 < (lm B9 gk).length := List.length_pos_iff.2 (lm_ne_nil B9 gk two_le_B9 hpos)
    have hlt : m % gk < gk := Nat.mod_lt _ hpos;have HN : Hid (Nat.gcd gk (m % gk) = Int.gcd a b) := by unfold Hid; rw [gcd_step]; exact HG.out
    have hlr : (lm B9 (m % gk)).length <= 100000 := Nat.le_trans (lm_len_le B9 _ _ two_le_B9 (Nat.lt_trans hlt (lm_len_lt B9 gk two_le_B9))) hln;have hlm9 : (lm B9 m).length <= 900000 := by omega
    have HRM := Lib.hid hrm;have HRN := Lib.hid hrn;clear hrm hrn;go_wp2_with fail;refine (divide_any _ _ _ m gk HRM.out HRN.out hpos hlm9).mono ?_;rintro e w6 ⟨_, rfl, ⟨vq, vr, rfl, hq, hr⟩, hb6⟩;obtain ⟨pr, cr, rfl, hcr, hmr, hr'⟩ := hr.open;have HRN6 := Lib.hid (RdC.below HRN.out hb6);have hbel := hnx.trans (hb6.mono hnx.size);clear hr' hq hb6;go_wp2_with fail
    go_roundg (m % gk)
    case measure => exact hlt
    case rel => exact ⟨gk, _, _, _, _, rfl, rfl, HN, hln, hlr, HRN6.out, hr, hbel⟩
def rightI (l : List UInt8) : Bool := canonB l && decide ((trimPrefix l [45]).length <= 200)
def errNum (b : Bool) : Int := if b then 0 else 2
theorem rightI_bad {l t : List UInt8} {m : Bool} (ht : t = trimPrefix l [45]) (hm : m = hasPrefix l [45])
 (h : t = [] \/ 200 < t.length \/ (t.head? = some 48 /\ (1 < t.length \/ m = true)) \/ ∃ c ∈ t, ¬ isDig c) : rightI l = false := by
 unfold rightI canonB;rw [<- ht, <- hm];rcases h with rfl | h | ⟨h1, h2⟩ | ⟨c, hc, hd⟩
 ·simp
 ·simp; intros; omega
 ·rcases h2 with h2 | h2 <;> simp [h1, h2]
 ·have : t.all (fun c => decide (isDig c)) = false := by
   rw [List.all_eq_false]; exact ⟨c, hc, by simpa using hd⟩
  simp only [this, Bool.and_false, Bool.false_and]
theorem rightI_good {l t : List UInt8} {m : Bool} (ht : t = trimPrefix l [45]) (hm : m = hasPrefix l [45])
 (h1 : t ≠ []) (h2 : t.length <= 200) (h3 : t.head? = some 48 -> t.length <= 1 /\ m = false) (h4 : ∀ c ∈ t, isDig c) : rightI l = true := by
 unfold rightI canonB;rw [<- ht, <- hm];have : t.all (fun c => decide (isDig c)) = true := by
  rw [List.all_eq_true]; intro c hc; simpa using h4 c hc
 simp only [this, Bool.and_true, Bool.and_eq_true, Bool.not_eq_true', decide_eq_true_eq];refine ⟨⟨by simpa using h1, ?_⟩, h2⟩;rw [Bool.and_eq_false_iff];by_cases h : t.head? = some 48
 ·right
  obtain ⟨h5, h6⟩ := h3 h;rw [h6]; simp; exact h5
 ·left; simpa using h
theorem checkI_any (s : ByteArray) (hs : s.size <= 1000000000000) (w : World) :
 Calls Tryz.prog 109 #[.string s] w (Same (fun v => v = .int .i64 (errNum (rightI s.data.toList))) w) := by
 obtain ⟨t, ht⟩ : ∃ t, t = trimPrefix s.data.toList [45] := ⟨_, rfl⟩;obtain ⟨m, hm⟩ : ∃ m, m = hasPrefix s.data.toList [45] := ⟨_, rfl⟩;obtain ⟨T, hT⟩ : ∃ T, T = BS t := ⟨_, rfl⟩;have hTl : T.data.toList = t := by rw [hT, BS_list]
 have hTs : T.size = t.length := by rw [hT, BS_size]
 have htl : t.length <= s.size := by
  rw [ht]; unfold trimPrefix;have : s.data.toList.length = s.size := by rw [Array.length_toList]; rfl
  split
  ·rw [List.length_drop]; omega
  ·omega
 have HBAD := Lib.hid (fun h => rightI_bad ht hm h);have HGOOD := Lib.hid (fun h1 h2 h3 h4 => rightI_good ht hm h1 h2 h3 h4);have HT := Lib.hid ht;have HM := Lib.hid hm;have HTT := Lib.hid hT;have HTL := Lib.hid hTl;have HTS := Lib.hid hTs;have hT6 : T.size <= 1000000000000 := by omega
 clear ht hm hT hTl;go_enter Tryz.func109, Tryz.ntmps109;go_wp2_with fail;refine (cutMinus_any _ _).mono ?_;rintro e w1 ⟨_, rfl, rfl, rfl⟩;rw [<- HT.out, <- HM.out, <- HTT.out];rcases Nat.eq_zero_or_pos T.size with h0 | hpos
 ·have hnil : t = [] := by rw [h0] at hTs; exact List.length_eq_zero_iff.1 hTs.symm
  have hTe : T.toList = [] := by rw [ba_toList, HTL.out]; exact hnil
  have HF : Hid (rightI s.data.toList = false) := HBAD.out (.inl hnil);clear hnil hTs;go_wp2_with fail;go_ret;exact ⟨_, rfl, congrArg (Value.int .i64) (show (2 : Int) = errNum _ by rw [HF.out]; rfl), rfl⟩
 ·have hTe : T.toList.isEmpty = false := by
   rw [ba_toList, HTL.out];cases t with
   | nil => rw [List.length_nil] at hTs; omega
   | cons c r => rfl
  rcases Nat.lt_or_ge 200 T.size with h200 | h200
  ·have HF : Hid (rightI s.data.toList = false) := HBAD.out (.inr (.inl (by omega)))
   clear hTs;go_wp2_with fail;go_ret;exact ⟨_, rfl, congrArg (Value.int .i64) (show (2 : Int) = errNum _ by rw [HF.out]; rfl), rfl⟩
  ·have hhead : t.head? = some T[0] := by
    have e : T.data.toList.head? = some T[0] := by
     rw [List.head?_eq_getElem?, List.getElem?_eq_getElem (by rw [Array.length_toList]; exact hpos)]; rfl
    rw [<- HTL.out]; exact e
   have HH := Lib.hid hhead;obtain ⟨c0, hc0⟩ : ∃ c0 : Nat, T[0].toNat = c0 := ⟨_, rfl⟩;have HC0 := Lib.hid hc0;have t200 : decide ((200 : Int) < (T.size : Int)) = false := by simp; omega
   clear hhead;rcases (by omega : (c0 = 48 /\ 1 < T.size) \/ (c0 = 48 /\ T.size = 1) \/ c0 ≠ 48) with ⟨h48, h1⟩ | ⟨h48, h1⟩ | h48
   ·have HF : Hid (rightI s.data.toList = false) := HBAD.out (.inr (.inr (.inl ⟨by rw [HH.out]; exact congrArg some (UInt8.toNat_inj.1 (by rw [hc0, h48]; rfl)), .inl (by omega)⟩)))
    subst h48;have t1 : decide ((1 : Int) < (T.size : Int)) = true := by simp; omega
    clear hTs;go_wp2_with fail;go_ret;exact ⟨_, rfl, congrArg (Value.int .i64) (show (2 : Int) = errNum _ by rw [HF.out]; rfl), rfl⟩
   ·have t1 : decide ((1 : Int) < (T.size : Int)) = false := by simp; omega
    subst h48;have h1a : T.size <= 1 := by omega
    clear hTs h1;cases m
    ·have HZ : Hid (t.head? = some 48 -> t.length <= 1 /\ false = false) := fun _ => ⟨by rw [<- HTS.out]; exact h1a, rfl⟩
     go_wp2_with fail;go_loop [33] (fun t33 => ∃ k : Nat, k <= T.size /\ t33 = .int .i64 k /\ Hid (∀ c ∈ t.take k, isDig c)) (fun t33 => T.size - (RowKit.intOf t33).toNat)
     case atStart => exact ⟨0, Nat.zero_le _, rfl, by intro c hc; simp at hc⟩
     case round =>
      obtain ⟨k, hk, rfl, HK⟩ := hrel;rcases Nat.lt_or_ge k T.size with hlt | hge
      ·obtain ⟨ck, hck⟩ : ∃ ck : Nat, T[k].toNat = ck := ⟨_, rfl⟩
       have HCK := Lib.hid hck;have hck2 : ck < 256 := by rw [<- hck]; exact UInt8.toNat_lt _
       have htk : Hid (t.take (k + 1) = t.take k ++ [T[k]]) := by
        unfold Hid;have h5 : k < t.length := by rw [<- HTS.out]; exact hlt
        rw [List.take_succ_eq_append_getElem h5];congr 2;have : T.data.toList[k]'(by rw [HTL.out]; exact h5) = t[k] := by simp only [HTL.out]
        rw [<- this]; rfl
       have hmem : Hid (T[k] ∈ t) := by
        have h6 : T[k] ∈ t.take (k + 1) := by rw [htk.out]; simp
        exact List.mem_of_mem_take h6
       rcases (by omega : ck < 48 \/ 57 < ck \/ (48 <= ck /\ ck <= 57)) with h | h | h
       ·have HF : Hid (rightI s.data.toList = false) := HBAD.out (.inr (.inr (.inr ⟨T[k], hmem.out, by unfold isDig; rw [HCK.out]; omega⟩)))
        have q1 : decide ((ck : Int) < 48) = true := by simp; omega
        go_wp2_with fail;go_ret;exact ⟨_, rfl, congrArg (Value.int .i64) (show (2 : Int) = errNum _ by rw [HF.out]; rfl), rfl⟩
       ·have HF : Hid (rightI s.data.toList = false) := HBAD.out (.inr (.inr (.inr ⟨T[k], hmem.out, by unfold isDig; rw [HCK.out]; omega⟩)))
        have q1 : decide ((ck : Int) < 48) = false := by simp; omega
        have q2 : decide ((57 : Int) < (ck : Int)) = true := by simp; omega
        go_wp2_with fail;go_ret;exact ⟨_, rfl, congrArg (Value.int .i64) (show (2 : Int) = errNum _ by rw [HF.out]; rfl), rfl⟩
       ·have q1 : decide ((ck : Int) < 48) = false := by simp; omega
        have q2 : decide ((57 : Int) < (ck : Int)) = false := by simp; omega
        have HN : Hid (∀ c ∈ t.take (k + 1), isDig c) := by
         unfold Hid; rw [htk.out];intro c hc;rcases List.mem_append.1 hc with hc | hc
         ·exact HK.out c hc
         ·simp only [List.mem_cons, List.not_mem_nil, or_false] at hc
          rw [hc]; unfold isDig; rw [HCK.out]; exact h
        go_wp2_with fail
        go_round
        case rel => exact ⟨k + 1, by omega, by go_num, HN⟩
        case measure => simp [RowKit.intOf]; omega
      ·have HF : Hid (rightI s.data.toList = true) := by
        have h9 := HK.out;rw [List.take_of_length_le (by rw [<- HTS.out]; exact hge)] at h9;exact HGOOD.out (by rw [<- List.length_pos_iff, <- HTS.out]; exact hpos) (by rw [<- HTS.out]; exact h200) HZ.out h9
       go_wp2_with fail;go_ret;exact ⟨_, rfl, congrArg (Value.int .i64) (show (0 : Int) = errNum _ by rw [HF.out]; rfl), rfl⟩
    ·have HF : Hid (rightI s.data.toList = false) := HBAD.out (.inr (.inr (.inl ⟨by rw [HH.out]; exact congrArg some (UInt8.toNat_inj.1 (by rw [hc0]; rfl)), .inr rfl⟩)))
     go_wp2_with fail;go_ret;exact ⟨_, rfl, congrArg (Value.int .i64) (show (2 : Int) = errNum _ by rw [HF.out]; rfl), rfl⟩
   ·have tz : ((c0 : Int) == 48) = false := by rw [beq_eq_false_iff_ne]; omega
    have HZ : Hid (t.head? = some 48 -> t.length <= 1 /\ m = false) := fun h => by
     rw [HH.out] at h;injection h with h
     exact absurd (by rw [<- HC0.out, h]; rfl) h48
    clear hTs;go_wp2_with fail;go_loop [33] (fun t33 => ∃ k : Nat, k <= T.size /\ t33 = .int .i64 k /\ Hid (∀ c ∈ t.take k, isDig c)) (fun t33 => T.size - (RowKit.intOf t33).toNat)
    case atStart => exact ⟨0, Nat.zero_le _, rfl, by intro c hc; simp at hc⟩
    case round =>
     obtain ⟨k, hk, rfl, HK⟩ := hrel;rcases Nat.lt_or_ge k T.size with hlt | hge
     ·obtain ⟨ck, hck⟩ : ∃ ck : Nat, T[k].toNat = ck := ⟨_, rfl⟩
      have HCK := Lib.hid hck;have hck2 : ck < 256 := by rw [<- hck]; exact UInt8.toNat_lt _
      have htk : Hid (t.take (k + 1) = t.take k ++ [T[k]]) := by
       unfold Hid;have h5 : k < t.length := by rw [<- HTS.out]; exact hlt
       rw [List.take_succ_eq_append_getElem h5];congr 2;have : T.data.toList[k]'(by rw [HTL.out]; exact h5) = t[k] := by simp only [HTL.out]
       rw [<- this]; rfl
      have hmem : Hid (T[k] ∈ t) := by
       have h6 : T[k] ∈ t.take (k + 1) := by rw [htk.out]; simp
       exact List.mem_of_mem_take h6
      rcases (by omega : ck < 48 \/ 57 < ck \/ (48 <= ck /\ ck <= 57)) with h | h | h
      ·have HF : Hid (rightI s.data.toList = false) := HBAD.out (.inr (.inr (.inr ⟨T[k], hmem.out, by unfold isDig; rw [HCK.out]; omega⟩)))
       have q1 : decide ((ck : Int) < 48) = true := by simp; omega
       go_wp2_with fail;go_ret;exact ⟨_, rfl, congrArg (Value.int .i64) (show (2 : Int) = errNum _ by rw [HF.out]; rfl), rfl⟩
      ·have HF : Hid (rightI s.data.toList = false) := HBAD.out (.inr (.inr (.inr ⟨T[k], hmem.out, by unfold isDig; rw [HCK.out]; omega⟩)))
       have q1 : decide ((ck : Int) < 48) = false := by simp; omega
       have q2 : decide ((57 : Int) < (ck : Int)) = true := by simp; omega
       go_wp2_with fail;go_ret;exact ⟨_, rfl, congrArg (Value.int .i64) (show (2 : Int) = errNum _ by rw [HF.out]; rfl), rfl⟩
      ·have q1 : decide ((ck : Int) < 48) = false := by simp; omega
       have q2 : decide ((57 : Int) < (ck : Int)) = false := by simp; omega
       have HN : Hid (∀ c ∈ t.take (k + 1), isDig c) := by
        unfold Hid; rw [htk.out];intro c hc;rcases List.mem_append.1 hc with hc | hc
        ·exact HK.out c hc
        ·simp only [List.mem_cons, List.not_mem_nil, or_false] at hc
         rw [hc]; unfold isDig; rw [HCK.out]; exact h
       go_wp2_with fail
       go_round
       case rel => exact ⟨k + 1, by omega, by go_num, HN⟩
       case measure => simp [RowKit.intOf]; omega
     ·have HF : Hid (rightI s.data.toList = true) := by
       have h9 := HK.out;rw [List.take_of_length_le (by rw [<- HTS.out]; exact hge)] at h9;exact HGOOD.out (by rw [<- List.length_pos_iff, <- HTS.out]; exact hpos) (by rw [<- HTS.out]; exact h200) HZ.out h9
      go_wp2_with fail;go_ret;exact ⟨_, rfl, congrArg (Value.int .i64) (show (0 : Int) = errNum _ by rw [HF.out]; rfl), rfl⟩
theorem neg_size {n : Int} {k : Nat} (h : (IS n).size <= k) : (IS (-n)).size <= k + 1 := by
 have h1 := itoa_len n;have h2 := itoa_len (-n);rw [IS_size] at h ⊢;rw [Int.natAbs_neg] at h2;split at h1 <;> split at h2 <;> omega
theorem tup2s {a b c d : ByteArray} (h1 : a = c) (h2 : b = d) : Value.tuple #[.string a, .string b] = Value.tuple #[.string c, .string d] := by rw [h1, h2]
theorem tdiv_lim {x y : Int} {M : Int} (hx : -M < x /\ x < M) : -M < x.tdiv y /\ x.tdiv y < M := by
 have h : (x.tdiv y).natAbs <= x.natAbs := by
  rw [Int.natAbs_tdiv]; exact Nat.div_le_self _ _
 omega
theorem nat_size_mono {a b k : Nat} (h : a <= b) (hb : (IS (b : Int)).size <= k) (hk : 0 < k) : (IS (a : Int)).size <= k := by
 rw [IS_size, itoa_nat] at *;rw [len_decDigits_le _ _ hk] at *;omega
theorem abs_size {n : Int} {k : Nat} (h : (IS n).size <= k) : (IS (n.natAbs : Int)).size <= k := by
 have h1 := itoa_len n;rw [IS_size] at h;rw [IS_size, itoa_nat, decDigits_length];split at h1 <;> omega
end Go.Proofs.YtgdpoankaojklaaGreatDoor
