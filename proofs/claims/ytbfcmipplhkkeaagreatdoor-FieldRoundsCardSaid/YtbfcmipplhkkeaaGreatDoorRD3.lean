import Derived.Test.YtbfcmipplhkkeaaGreatDoorRD2
import Derived.Laws.OwnMore
import Derived.BigRegion
/- Klipperef01: carry, joined, times, take, give, parts. -/
set_option maxHeartbeats 2000000
set_option maxRecDepth 100000
namespace Go.Proofs.YtbfcmipplhkkeaaGreatDoor
open Go.RowKit
theorem cell_one_i64 (w : World) (x : Int) (E : Nat) : ∀ (j : Nat) (u : Value), [Value.int .i64 x][j]? = some u -> (w.alloc (.cells #[.int .i64 x] E)).cell? ((⟨w.heap.size, 0, none⟩ : Addr).add j) = some u := cell_one_new _ _ _
theorem one_cell_i64 (x : Int) : ∀ u ∈ [Value.int .i64 x], u.oneCell' = true := by intro u hu; simp at hu; subst hu; rfl
theorem map_snoc_i64 (l : List Nat) (x : Nat) : (l.map fun x : Nat => Value.int .i64 (x : Int)) ++ [Value.int .i64 (x : Int)] = (l ++ [x]).map fun x : Nat => Value.int .i64 (x : Int) := by simp
theorem tmod_cases (s : Int) : (0 <= s /\ s.tmod 10000 = s % 10000) \/ (s < 0 /\ s.tmod 10000 = -((-s) % 10000)) := by
 rcases Int.lt_or_le s 0 with h | h
 ·right
  refine ⟨h, ?_⟩;have : s = -(-s) := by omega
  conv => lhs; rw [this, Int.neg_tmod, Int.tmod_eq_emod_of_nonneg (by omega)]
 ·exact .inl ⟨h, Int.tmod_eq_emod_of_nonneg h⟩
theorem tdiv_exact (s : Int) : (s - s % 10000).tdiv 10000 = s / 10000 := by
 have h : s - s % 10000 = 10000 * (s / 10000) := by omega
 rw [h, Int.mul_tdiv_cancel_left _ (by decide)]
theorem tdig_neg {s m : Int} (hm : m = s.tmod 10000) (h : m < 0) : m + 10000 = s % 10000 /\ (s - (m + 10000)).tdiv 10000 = s / 10000 := by
 have h1 : m + 10000 = s % 10000 := by
  rcases tmod_cases s with ⟨h2, h3⟩ | ⟨h2, h3⟩ <;> rw [h3] at hm <;> omega
 exact ⟨h1, by rw [h1]; exact tdiv_exact s⟩
theorem tdig_pos {s m : Int} (hm : m = s.tmod 10000) (h : ¬ m < 0) : m = s % 10000 /\ (s - m).tdiv 10000 = s / 10000 := by
 have h1 : m = s % 10000 := by
  rcases tmod_cases s with ⟨h2, h3⟩ | ⟨h2, h3⟩ <;> rw [h3] at hm <;> omega
 exact ⟨h1, by rw [h1]; exact tdiv_exact s⟩
def Few (len k : Nat) (ov : Int) : Prop := k <= len \/ ∃ f : Nat, k + f <= len + 5 /\ ov < 10000 ^ f
theorem Few.le {len k : Nat} {ov : Int} (h : Few len k ov) : k <= len + 5 := by
 rcases h with h | ⟨f, h, _⟩ <;> omega
theorem Few.step {len k : Nat} {ov s : Int} (h : Few len k ov) (hs : k < len \/ (s = ov /\ 0 < ov)) (h1 : ov <= 100000000000000000) : Few len (k + 1) (s / 10000) := by
 rcases hs with hk | ⟨rfl, h0⟩
 ·exact .inl hk
 ·rcases Nat.lt_or_ge k len with hk | hk
  ·exact .inl hk
  ·have h2 : ∃ f : Nat, k + f <= len + 5 /\ s < 10000 ^ f := by
    rcases h with h | h
    ·exact ⟨5, by omega, by omega⟩
    ·exact h
   obtain ⟨f, hf, hlt⟩ := h2;cases f with
   | zero => simp at hlt; omega
   | succ f =>
     refine .inr ⟨f, by omega, ?_⟩;rw [Int.pow_succ] at hlt;generalize (10000 : Int) ^ f = P at *;omega
theorem carry4_any (w : World) (v : Value) (p : List Int) (n : Nat) (h : RdI .i64 w v p) (hlen : p.length <= 3000000) (hb : ∀ x ∈ p, -100000000000000000 <= x /\ x <= 100000000000000000) (hn : ival p = n) :
 Calls Tryz.prog 163 #[v] w (Ret (fun v' w' => Rd .i64 w' v' (lm B4 n) /\ FreshV w.heap.size v') w) := by
 obtain ⟨i0, hi, hz0, hz1, hz2⟩ := info_parts Tryz.info_i64;obtain ⟨pa, c, rfl, hc, hm, hr⟩ := h.open;have HN := Lib.hid hn;have HBD := Lib.hid hb;clear h hn hb;have hm' : c <= 9223372036854775807 := hm;go_enter Tryz.func163, Tryz.ntmps163;go_wp2;go_loopw [3, 4, 5] (fun t3 t4 t5 wr => ∃ (k : Nat) (ov : Int) (o : List Nat), t5 = .int .i64 k /\ t4 = .int .i64 ov /\ Hid (CarryInv p k ov o) /\ Few p.length k ov /\ -100000000000000000 <= ov /\ ov <= 100000000000000000 /\ wr.ownsRow w.heap.size 3 1 t3 k (o.map fun x : Nat => Value.int .i64 (x : Int)) /\ Below w.heap.size w wr)
  (fun _ t4 t5 _ => (p.length - (intOf t5).toNat) * 100000000000000001 + (intOf t4).toNat)
 case atStart => exact ⟨0, 0, [], rfl, rfl, CarryInv.start p, .inl (Nat.zero_le _), by decide, by decide, ⟨rfl, .inl ⟨rfl, rfl⟩⟩, Below.refl _ _⟩
 case round =>
  obtain ⟨k, ov, o, rfl, rfl, HI, hfew, ho1, ho2, hown, hnx⟩ := hrel;have hk5 := hfew.le;have hk6 : k <= 4000000 := by omega
  rcases Nat.lt_or_ge k p.length with hkp | hkp
  ·have hne : p ≠ [] := List.ne_nil_of_length_pos (by omega)
   obtain ⟨b, off, rfl, hbl, hcell⟩ := hr hne;have hc1 := zcq hnx hbl (hcell k hkp);obtain ⟨x, hx⟩ : ∃ x, x = p[k] := ⟨_, rfl⟩;rw [<- hx] at hc1;have hxb : -100000000000000000 <= x /\ x <= 100000000000000000 := by rw [hx]; exact HBD.out _ (List.getElem_mem hkp)
   have hstep : Hid (CarryInv p (k + 1) ((ov + x) / 10000) (o ++ [((ov + x) % 10000).toNat])) := HI.out.step (by rw [hx, List.getElem?_eq_getElem hkp]; rfl) HBD.out;have hfew2 := hfew.step (s := ov + x) (.inl hkp) ho2;have hsb : -200000000000000000 <= ov + x /\ ov + x <= 200000000000000000 := by omega
   have HX := Lib.hid hx;clear hcell hr hx;by_cases hneg : (ov + x).tmod 10000 < 0
   ·have hmb : -10000 < (ov + x).tmod 10000 := by
     rcases tmod_cases (ov + x) with ⟨h2, h3⟩ | ⟨h2, h3⟩ <;> rw [h3] <;> omega
    have HD := Lib.hid (tdig_neg (s := ov + x) rfl hneg);have hdv : -20000000000001 <= (ov + x) / 10000 /\ (ov + x) / 10000 <= 20000000000000 := by omega
    go_wp2_with (first | (at_builtin; refine wpList_append_own _ rfl _ _ 46 rfl w.heap.size 3 i0 (.int .i64 0) 1 8 Tryz.underlying46 hi hz0 hz1 hz2 rfl (by decide) _ _ _ rfl (hown.alloc _) ⟨wr.heap.size, 0, none⟩ 1 1 [.int .i64 ((ov + x).tmod 10000 + 10000)] rfl rfl (cell_one_i64 _ _ _) (one_cell_i64 _) (by unfold maxLen; omega) (by omega) (by have := hnx.size; simp; omega) ?_));intro v' w2 hown2 hgr2 _;have hown3 : w2.ownsRow w.heap.size 3 1 v' (k + 1) ((o ++ [((ov + x) % 10000).toNat]).map fun x : Nat => Value.int .i64 (x : Int)) := by
     rw [<- map_snoc_i64];have e : ((ov + x).tmod 10000 + 10000 : Int) = ((((ov + x) % 10000).toNat : Nat) : Int) := by rw [HD.out.1]; omega
     rw [<- e]; exact hown2
    have hbl2 := below_append hnx hnx.size hown hgr2;clear hown2 hown hgr2 hnx;go_wp2;go_roundw
    case rel => exact ⟨k + 1, _, _, by go_num, rfl, by rw [HD.out.2]; exact hstep, by rw [HD.out.2]; exact hfew2, by rw [HD.out.2]; omega, by rw [HD.out.2]; omega, hown3, hbl2⟩
    case measure => simp [intOf, HD.out.2]; omega
   ·have hmb : 0 <= (ov + x).tmod 10000 /\ (ov + x).tmod 10000 < 10000 := by
     rcases tmod_cases (ov + x) with ⟨h2, h3⟩ | ⟨h2, h3⟩ <;> rw [h3] at hneg ⊢ <;> omega
    have HD := Lib.hid (tdig_pos (s := ov + x) rfl hneg);have hdv : -20000000000001 <= (ov + x) / 10000 /\ (ov + x) / 10000 <= 20000000000000 := by omega
    go_wp2_with (first | (at_builtin; refine wpList_append_own _ rfl _ _ 46 rfl w.heap.size 3 i0 (.int .i64 0) 1 8 Tryz.underlying46 hi hz0 hz1 hz2 rfl (by decide) _ _ _ rfl (hown.alloc _) ⟨wr.heap.size, 0, none⟩ 1 1 [.int .i64 ((ov + x).tmod 10000)] rfl rfl (cell_one_i64 _ _ _) (one_cell_i64 _) (by unfold maxLen; omega) (by omega) (by have := hnx.size; simp; omega) ?_));intro v' w2 hown2 hgr2 _;have hown3 : w2.ownsRow w.heap.size 3 1 v' (k + 1) ((o ++ [((ov + x) % 10000).toNat]).map fun x : Nat => Value.int .i64 (x : Int)) := by
     rw [<- map_snoc_i64];have e : ((ov + x).tmod 10000 : Int) = ((((ov + x) % 10000).toNat : Nat) : Int) := by rw [HD.out.1]; omega
     rw [<- e]; exact hown2
    have hbl2 := below_append hnx hnx.size hown hgr2;clear hown2 hown hgr2 hnx;go_wp2;go_roundw
    case rel => exact ⟨k + 1, _, _, by go_num, rfl, by rw [HD.out.2]; exact hstep, by rw [HD.out.2]; exact hfew2, by rw [HD.out.2]; omega, by rw [HD.out.2]; omega, hown3, hbl2⟩
    case measure => simp [intOf, HD.out.2]; omega
  ·have hov0 : 0 <= ov := HI.out.nonneg hkp HN.out
   have hkp' : ¬ k < p.length := by omega
   by_cases hz : ov = 0
   ·subst hz
    have HDN : Hid (dropZ o = lm B4 n) := HI.out.done hkp HN.out;have hlo : o.length = k := HI.out.1;have hrd : Rd .i64 wr _ o := Rd.of_owns rfl (by rw [hlo]; exact hown);have hfr := FreshV.of_owns hown;clear hlo hr hown;go_wp2_with (go_at_call 161; refine (cut4_full _ _ _ hrd).mono ?_; rintro e w3 ⟨v3, rfl, hv3, rfl⟩);go_ret;exact ⟨_, rfl, ⟨HDN.out ▸ hv3.1, hv3.2 _ hfr⟩, hnx⟩
   ·have hz1' : (ov != 0) = true := by rw [bne_iff_ne]; exact hz
    have hov1 : 0 < ov := by omega
    have hstep : Hid (CarryInv p (k + 1) (ov / 10000) (o ++ [(ov % 10000).toNat])) := HI.out.step (by rw [List.getElem?_eq_none hkp]; simp) HBD.out;have hfew2 := hfew.step (s := ov) (.inr ⟨rfl, hov1⟩) ho2;clear hz hr;go_wp2_with (first | (at_builtin; refine wpList_append_own _ rfl _ _ 46 rfl w.heap.size 3 i0 (.int .i64 0) 1 8 Tryz.underlying46 hi hz0 hz1 hz2 rfl (by decide) _ _ _ rfl (hown.alloc _) ⟨wr.heap.size, 0, none⟩ 1 1 [.int .i64 (ov % 10000)] rfl rfl (cell_one_i64 _ _ _) (one_cell_i64 _) (by unfold maxLen; omega) (by omega) (by have := hnx.size; simp; omega) ?_));intro v' w2 hown2 hgr2 _;have hown3 : w2.ownsRow w.heap.size 3 1 v' (k + 1) ((o ++ [(ov % 10000).toNat]).map fun x : Nat => Value.int .i64 (x : Int)) := by
     rw [<- map_snoc_i64];have e : (ov % 10000 : Int) = (((ov % 10000).toNat : Nat) : Int) := by omega
     rw [<- e]; exact hown2
    have hbl2 := below_append hnx hnx.size hown hgr2;clear hown2 hown hgr2 hnx;go_wp2;go_roundw
    case rel => exact ⟨k + 1, _, _, by go_num, rfl, by rw [show (ov - ov % 10000) / 10000 = ov / 10000 by omega]; exact hstep, by rw [show (ov - ov % 10000) / 10000 = ov / 10000 by omega]; exact hfew2, by omega, by omega, hown3, hbl2⟩
    case measure => simp [intOf]; omega
theorem own_shape {w : World} {base e n sz : Nat} {v : Value} {cs : List Value} (h : w.ownsRow base e sz v n cs) : ∃ p c, v = .slice p n c /\ (0 < n -> ∃ g, p = some ⟨g, 0, none⟩ /\ base <= g) := by
 rcases h.2 with ⟨h1, h2⟩ | ⟨g, cap, cur, h1, hb, _⟩
 ·exact ⟨none, 0, by rw [h1, h2], fun h3 => absurd h2 (by omega)⟩
 ·exact ⟨_, cap, h1, fun _ => ⟨g, rfl, hb⟩⟩
theorem joined4_any (w : World) (va vb : Value) (a b n : Nat) (kz : Int) (ha : Rd .i64 w va (lm B4 a)) (hb : Rd .i64 w vb (lm B4 b)) (hk : -10000 <= kz /\ kz <= 10000) (hn : (a : Int) + kz * b = n)
 (hla : (lm B4 a).length <= 1000000) (hlb : (lm B4 b).length <= 1000000) :
 Calls Tryz.prog 118 #[va, vb, .int .i64 kz, .int .i64 0] w (Ret (fun v' w' => Rd .i64 w' v' (lm B4 n) /\ FreshV w.heap.size v') w) := by
 obtain ⟨i0, hi, hz0, hz1, hz2⟩ := info_parts Tryz.info_i64;obtain ⟨pa, c, rfl, hc, hm, hr⟩ := ha.open;obtain ⟨q, d, rfl, hd, hm2, hs⟩ := hb.open;have hm' : c <= 9223372036854775807 := hm;have hn' : d <= 9223372036854775807 := hm2;have HX := Lib.hid (lm_lt B4 a two_le_B4);have HY := Lib.hid (lm_lt B4 b two_le_B4);have HN : Hid (ival (jl (lm B4 a) (lm B4 b) kz (lm B4 b).length) = n) := by
  unfold Hid;rw [ival_jl _ _ _ _ (Nat.le_refl _), List.take_length, lval_lm B4 a two_le_B4, lval_lm B4 b two_le_B4]; exact hn
 clear ha hb hn;generalize lm B4 a = x at *;generalize lm B4 b = y at *;have h00 : Hid ((x.map fun x : Nat => Value.int .i64 (x : Int)) = (jl x y kz 0).map fun x : Int => Value.int .i64 x) := by
  unfold Hid; rw [jl_zero, List.map_map]; rfl
 have hemp : (w.alloc (.cells #[] 3)).ownsRow w.heap.size 3 1 (.slice (some ⟨w.heap.size, 0, none⟩) 0 0) 0 [] :=
  ⟨rfl, .inr ⟨w.heap.size, 0, _, rfl, Nat.le_refl _, heap_alloc_new _ _, Nat.le_refl _, by unfold maxLen; omega, rfl, rfl⟩⟩
 have hbw : Below w.heap.size w (w.alloc (.cells #[] 3)) := zal _ _;rcases Nat.eq_zero_or_pos x.length with hx0 | hxp
 case' inl =>
  obtain rfl := List.length_eq_zero_iff.1 hx0;cases pa;all_goals
   go_enter Tryz.func118, Tryz.ntmps118;go_wp2_with fail
  all_goals
   obtain ⟨x, hxl, HX', HN', hown2⟩ : ∃ x : List Nat, x.length <= 1000000 /\ Hid (∀ z ∈ x, z < B4) /\ Hid (ival (jl x y kz y.length) = n) /\
    (w.alloc (.cells #[] 3)).ownsRow w.heap.size 3 1 (.slice (some ⟨w.heap.size, 0, none⟩) 0 0) (jl x y kz 0).length ((jl x y kz 0).map fun x : Int => Value.int .i64 x) :=
    ⟨[], by simp, HX, HN, by rw [<- h00.out, jl_length]; exact hemp⟩
   clear HX HN hx0 h00 hemp hr hc hla;have HX := HX';have HN := HN';clear HX' HN';generalize (w.alloc (.cells #[] 3)) = w2 at *;generalize (Value.slice (some ⟨w.heap.size, 0, none⟩) 0 0) = v' at *
 case' inr =>
  have hne : x ≠ [] := List.ne_nil_of_length_pos hxp;obtain ⟨bx, ox, rfl, hblx, hcx⟩ := hr hne;have hnews : ∀ j u, (x.map fun x : Nat => Value.int .i64 (x : Int))[j]? = some u -> (w.alloc (.cells #[] 3)).cell? ((⟨bx, ox, none⟩ : Addr).add j) = some u := by
   intro j u hu;have hj : j < x.length := by have := (List.getElem?_eq_some_iff.1 hu).1; simpa using this
   rw [List.getElem?_map, List.getElem?_eq_getElem hj] at hu;cases hu;rw [addr_add];show (w.alloc (.cells #[] 3)).cell? ⟨bx, ox + j, none⟩ = some (.int .i64 ((x[j] : Nat) : Int));exact cell_alloc_l _ (hcx j hj)
  have hnew1 : ∀ u ∈ x.map fun x : Nat => Value.int .i64 (x : Int), u.oneCell' = true := by
   intro u hu;obtain ⟨y, _, rfl⟩ := List.mem_map.1 hu;rfl
  have hxl : x.length <= 1000000 := hla;have HNEWS := Lib.hid hnews;clear hcx hr hnews;go_enter Tryz.func118, Tryz.ntmps118;go_wp2_with (first | (at_builtin; refine wpList_append_own _ rfl _ _ 46 rfl w.heap.size 3 i0 (.int .i64 0) 1 8 Tryz.underlying46 hi hz0 hz1 hz2 rfl (by decide) _ _ _ rfl hemp ⟨bx, ox, none⟩ x.length c (x.map fun x : Nat => Value.int .i64 (x : Int)) rfl (by simp) HNEWS.out hnew1 (by unfold maxLen; omega) (by omega) (by simp) ?_));intro v' w2 hown2 hgr2 _;have hbw2 := hbw.grown hgr2 (by simp) (fun k hk => by have e : w.heap.size = k := (Option.some.inj hk); omega);rw [h00.out] at hown2;have e0 : x.length = (jl x y kz 0).length := by rw [jl_length]; omega
  rw [e0] at hown2;clear hbw hgr2 HNEWS hnew1 e0 hne hxp;have hbw := hbw2;clear hbw2;go_wp2_with fail
 all_goals
  go_loopw [9, 10] (fun t9 t10 wr => ∃ i : Nat, i <= y.length /\ t10 = .int .i64 i /\ wr.ownsRow w.heap.size 3 1 t9 (jl x y kz i).length ((jl x y kz i).map fun x : Int => Value.int .i64 x) /\ Below w.heap.size w wr) (fun _ t10 _ => y.length - (intOf t10).toNat)
  case atStart => exact ⟨0, Nat.zero_le _, rfl, hown2, hbw⟩
  case round =>
   clear hown2 hbw;obtain ⟨i, hil, rfl, hown, hnx⟩ := hrel;have hi6 : i <= 1000000 := by omega
   rcases Nat.lt_or_ge i y.length with hiy | hiy
   ·go_wp2_with fail
    obtain ⟨wo, hwo⟩ : ∃ wo : World, wo = wr := ⟨_, rfl⟩;subst hwo;obtain ⟨p0, c0, rfl, _⟩ := own_shape hown;go_loopw [9] (fun t9 wr => ∃ (L : List Int) (p1 : Option Addr) (c1 : Nat), t9 = .slice p1 L.length c1 /\ (0 < L.length -> ∃ g, p1 = some ⟨g, 0, none⟩ /\ w.heap.size <= g) /\ Hid (L = jl x y kz i \/ (x.length <= i /\ L = jl x y kz i ++ [0])) /\ L.length <= 1000001 /\ i <= L.length /\ L.length <= max x.length (i + 1) /\ wr.ownsRow w.heap.size 3 1 t9 L.length (L.map fun x : Int => Value.int .i64 x) /\ Below w.heap.size w wr)
     (fun t9 _ => i + 1 - (match t9 with | .slice _ n _ => n | _ => 0))
    case atStart =>
     obtain ⟨p9, c9, e9, h9⟩ := own_shape hown;cases e9;exact ⟨_, _, _, rfl, h9, .inl rfl, by rw [jl_length]; omega, by rw [jl_length]; omega, by rw [jl_length]; omega, hown, hnx⟩
    case round =>
     clear hown hnx;obtain ⟨L, p1, c1, rfl, hsh, hL, hL1, hL2, hL3, hown, hnx⟩ := hrel;rcases Nat.lt_or_ge i L.length with hLi | hLi
     ·obtain ⟨g, rfl, hg⟩ := hsh (by omega)
      have hcell := hown.cellAt i (by omega);rw [List.getElem?_map, List.getElem?_eq_getElem hLi, Option.map_some] at hcell;have hfro := hown.frozenAt i;have hney : y ≠ [] := List.ne_nil_of_length_pos (by omega);obtain ⟨bY, offy, rfl, hbly, hcelly⟩ := hs hney;have hc2 := zcq hnx hbly (hcelly i hiy);have hyb : y[i] < B4 := HY.out _ (List.getElem_mem hiy);obtain ⟨yk, hye⟩ : ∃ yk, yk = (y[i] : Int) := ⟨_, rfl⟩;obtain ⟨lk, hlk⟩ : ∃ lk, lk = L[i] := ⟨_, rfl⟩;rw [<- hye] at hc2;rw [<- hlk] at hcell;have hyk0 : 0 <= yk /\ yk < 10000 := by unfold B4 at hyb; omega
      have hlb : -100010000 <= lk /\ lk <= 100010000 := by
       rcases hL.out with e | ⟨_, e⟩
       ·exact jl_bound HX.out HY.out hk i _ (by rw [hlk]; subst e; exact List.getElem_mem _)
       ·have hm9 : lk ∈ jl x y kz i ++ [0] := by rw [hlk]; subst e; exact List.getElem_mem _
        rcases List.mem_append.1 hm9 with h5 | h5
        ·exact jl_bound HX.out HY.out hk i _ h5
        ·simp at h5; omega
      have hky : -100000000 <= kz * yk /\ kz * yk <= 100000000 := by
       rcases Int.le_total 0 kz with h0 | h0
       ·have h1 : kz * yk <= 10000 * 10000 := Int.mul_le_mul hk.2 (by omega) (by omega) (by omega)
        have h2 : 0 <= kz * yk := Int.mul_nonneg h0 hyk0.1;omega
       ·have h1 : (-kz) * yk <= 10000 * 10000 := Int.mul_le_mul (by omega) (by omega) (by omega) (by omega)
        have h2 : 0 <= (-kz) * yk := Int.mul_nonneg (by omega) hyk0.1;rw [Int.neg_mul] at h1 h2;omega
      have hnew : Hid (L.set i (lk + kz * yk) = jl x y kz (i + 1)) := by
       unfold Hid;have hyy : y[i]?.getD 0 = y[i] := by rw [List.getElem?_eq_getElem hiy]; rfl
       rcases hL.out with e | ⟨hxi, e⟩
       ·have hix : i < x.length := by rw [e, jl_length] at hLi; omega
        have h5 := jl_at_in x y kz i hix (by rw [jl_length]; omega);have h6 : lk = (x[i] : Int) := by rw [hlk, <- h5]; subst e; rfl
        rw [<- jl_step_in x y kz i hix _ rfl, e, h6, hye, hyy]
       ·have h6 : lk = 0 := by
         rw [hlk]; subst e;rw [List.getElem_append_right (by rw [jl_length]; omega)]; simp
        rw [<- jl_step_app x y kz i hxi, e, h6, hye, hyy]
      have hownd : wr.drew.ownsRow w.heap.size 3 1 (.slice (some ⟨g, 0, none⟩) L.length c1) L.length (L.map fun x : Int => Value.int .i64 x) := hown;have hst := hownd.stored i (.int .i64 (lk + kz * yk));rw [List.map_set.symm] at hst;have hown2 : (wr.drew.setCell ⟨g, i, none⟩ (.int .i64 (lk + kz * yk))).ownsRow w.heap.size 3 1 (.slice (some ⟨g, 0, none⟩) L.length c1) (jl x y kz (i + 1)).length ((jl x y kz (i + 1)).map fun x : Int => Value.int .i64 x) := by
       rw [<- hnew.out, List.length_set]; exact hst.1
      have hbl2 := hnx.drew.setCell (p := ⟨g, i, none⟩) hg (.int .i64 (lk + kz * yk));clear hst hnew hL hs hcelly hye hlk hsh;clear hownd;have f1 : (0 : Int) <= (i : Int) := by omega
      have f2 : (i : Int) < (L.length : Int) := by omega
      have f3 : (i : Int) < (y.length : Int) := by omega
      go_wp2;go_region;go_wp2;go_roundw
      case rel => exact ⟨i + 1, by omega, by go_num, hown2, hbl2⟩
      case measure => simp [intOf]; omega
     ·have hLe : L.length = i := by omega
      have hxi : Hid (L = jl x y kz i /\ x.length <= i) := by
       rcases hL.out with e | ⟨h1, e⟩
       ·refine ⟨e, ?_⟩
        rw [e, jl_length] at hLe; omega
       ·exfalso
        rw [e, List.length_append, jl_length] at hLe;simp at hLe; omega
      have HLE := Lib.hid hLe;clear hL hLe;go_wp2_with (first | (at_builtin; refine wpList_append_own _ rfl _ _ 46 rfl w.heap.size 3 i0 (.int .i64 0) 1 8 Tryz.underlying46 hi hz0 hz1 hz2 rfl (by decide) _ _ _ rfl (hown.alloc _) ⟨wr.heap.size, 0, none⟩ 1 1 [.int .i64 0] rfl rfl (cell_one_i64 _ _ _) (one_cell_i64 _) (by unfold maxLen; omega) (by omega) (by have := hnx.size; simp; omega) ?_));intro v' w2 hown2 hgr2 _;obtain ⟨p3, c3, rfl, hsh3⟩ := own_shape hown2;have hown3 : w2.ownsRow w.heap.size 3 1 (.slice p3 (L.length + 1) c3) (L ++ [0]).length ((L ++ [0]).map fun x : Int => Value.int .i64 x) := by
       rw [List.map_append, List.length_append]; exact hown2
      have hbl2 := below_append hnx hnx.size hown hgr2;have hL9 : Hid (L ++ [0] = jl x y kz i ++ [0]) := by unfold Hid; rw [hxi.out.1]
      have hsh4 : 0 < (L ++ [0]).length -> ∃ g, p3 = some ⟨g, 0, none⟩ /\ w.heap.size <= g := fun _ => hsh3 (by omega)
      have hsl : Hid (Value.slice p3 (L.length + 1) c3 = Value.slice p3 (L ++ [0]).length c3) := by unfold Hid; rw [List.length_append]; rfl
      clear hown2 hown hgr2 hnx hsh3;go_wp2;go_roundw
      case rel => exact ⟨L ++ [0], p3, c3, hsl.out, hsh4, .inr ⟨hxi.out.2, hL9.out⟩, by simp; omega, by simp; omega, by simp; omega, hown3, hbl2⟩
      case measure =>
       show i + 1 - (L.length + 1) < i + 1 - L.length;omega
   ·have hie : i = y.length := by omega
    have hrd := RdI.of_owns rfl hown;have hfr := FreshV.of_owns hown;have hlen9 : (jl x y kz i).length <= 3000000 := by rw [jl_length]; omega
    have hbd : ∀ z ∈ jl x y kz i, -100000000000000000 <= z /\ z <= 100000000000000000 := fun z hz => by
     have := jl_bound HX.out HY.out hk i z hz; omega
    have HBD := Lib.hid hbd;have HV : Hid (ival (jl x y kz i) = n) := by rw [hie]; exact HN
    have HRD := Lib.hid hrd;clear hown hie hbd hrd;go_wp2_with (go_at_call 163; refine (carry4_any _ _ _ n HRD.out hlen9 HBD.out HV.out).mono ?_; rintro e w3 ⟨v3, rfl, hv3, hb3⟩);go_ret;exact ⟨_, rfl, ⟨hv3.1, fun a l c e => Nat.le_trans hnx.size (hv3.2 a l c e)⟩, hnx.trans (hb3.mono hnx.size)⟩
def ArrI (k : IntKind) (w : World) (g E : Nat) (o : List Int) : Prop := w.heap[g]? = some (.cells (o.map fun x : Int => Value.int k x).toArray E (0, 0))
theorem ArrI.cell {k : IntKind} {w : World} {g E : Nat} {o : List Int} (h : ArrI k w g E o) (j : Nat) (hj : j < o.length) : w.cell? ⟨g, j, none⟩ = some (.int k (o[j])) := by
 rw [cell_of_row w g j _ E (0, 0) h];simp [hj]
theorem ArrI.frozen {k : IntKind} {w : World} {g E : Nat} {o : List Int} (h : ArrI k w g E o) (j : Nat) : w.frozen? ⟨g, j, none⟩ = false := by
 unfold World.frozen?;rw [h];simp
theorem ArrI.lt {k : IntKind} {w : World} {g E : Nat} {o : List Int} (h : ArrI k w g E o) : g < w.heap.size := (Array.getElem?_eq_some_iff.1 h).1
theorem ArrI.set {k : IntKind} {w : World} {g E : Nat} {o : List Int} (h : ArrI k w g E o) (j : Nat) (v : Int) : ArrI k (w.setCell ⟨g, j, none⟩ (.int k v)) g E (o.set j v) := by
 unfold ArrI at *;have hg : g < w.heap.size := (Array.getElem?_eq_some_iff.1 h).1;have h2 := (Array.getElem?_eq_some_iff.1 h).2;simp only [World.setCell, Array.getElem?_modify, if_pos, h, Option.map_some];simp [List.map_set]
theorem ArrI.rd {k : IntKind} {w : World} {g E : Nat} {o : List Int} (h : ArrI k w g E o) (hl : o.length <= maxLen) : RdI k w (.slice (some ⟨g, 0, none⟩) o.length o.length) o := by
 refine ⟨_, _, rfl, Nat.le_refl _, hl, by simp, fun _ => ⟨g, 0, rfl, fun i x hx => ?_⟩⟩;have hi : i < o.length := by have := (List.getElem?_eq_some_iff.1 hx).1; simpa using this
 rw [Nat.zero_add, h.cell i hi];simp [hi] at hx;rw [hx]
theorem ArrI.drewN {k : IntKind} {w : World} {g E : Nat} {o : List Int} (h : ArrI k w g E o) (n : Nat) : ArrI k (w.drewN n) g E o := h
theorem ArrI.of_zeros {k : IntKind} {w : World} {g E n : Nat} (h : Arr k w g E (List.replicate n 0)) : ArrI k w g E (List.replicate n 0) := by
 unfold ArrI;unfold Arr at h;rw [h];simp
theorem times4_any (w : World) (va vb : Value) (a b : Nat) (ha : Rd .i64 w va (lm B4 a)) (hb : Rd .i64 w vb (lm B4 b))
 (hla : (lm B4 a).length <= 1000000) (hlb : (lm B4 b).length <= 1000000) :
 Calls Tryz.prog 184 #[va, vb] w (Ret (fun v w' => Rd .i64 w' v (lm B4 (a * b)) /\ FreshV w.heap.size v) w) := by
 obtain ⟨i0, hi, hz0, hz1, hz2⟩ := info_parts Tryz.info_i64;obtain ⟨p, c, rfl, hc, hm, hr⟩ := ha.open;obtain ⟨q, d, rfl, hd, hn, hs⟩ := hb.open;have HX := Lib.hid (lm_lt B4 a two_le_B4);have HY := Lib.hid (lm_lt B4 b two_le_B4);have HVX := Lib.hid (lval_lm B4 a two_le_B4);have HVY := Lib.hid (lval_lm B4 b two_le_B4);clear ha hb;generalize lm B4 a = x at *;generalize lm B4 b = y at *;have hm' : c <= 9223372036854775807 := hm;have hn' : d <= 9223372036854775807 := hn;obtain ⟨n, hn0⟩ : ∃ n, n = x.length + y.length := ⟨_, rfl⟩;have HN := Lib.hid hn0;have hn1 : n <= x.length + y.length := by omega
 have hn2 : x.length + y.length <= n := by omega
 clear hn0;go_enter Tryz.func184, Tryz.ntmps184;go_wp2_with (first | (at_make; refine wpList_make_full _ rfl _ _ 46 rfl w.heap.size 3 i0 (.int .i64 0) 1 Tryz.underlying46 hi hz0 hz1 _ _ _ _ n rfl rfl (by omega) (by omega) (by rw [hz2]; omega) (by unfold maxLen; omega) (Nat.le_refl _) ?_; intro w1 hown hgr));have harr : ArrI .i64 w1 w.heap.size 3 (List.replicate n 0) := ArrI.of_zeros (Arr.of_full rfl hown);have hb1 : Below w.heap.size w w1 := (Below.refl _ _).grown hgr (Nat.le_refl _) (fun k hk => by cases hk);have hstart : Hid (TimesR x y 0 0 (List.replicate n 0)) := by unfold Hid; rw [HN.out]; exact TimesR.start x y
 clear hgr hown;go_loopw [6] (fun t6 wr => ∃ (i : Nat) (o : List Int), i <= x.length /\ t6 = .int .i64 i /\ Hid (TimesR x y i 0 o) /\ ArrI .i64 wr w.heap.size 3 o /\ Below w.heap.size w wr) (fun t6 _ => x.length - (intOf t6).toNat)
 case atStart => exact ⟨0, List.replicate n 0, Nat.zero_le _, rfl, hstart, harr, hb1⟩
 case round =>
  clear harr hb1 hstart;obtain ⟨i, o, hil, rfl, HT, harr, hnx⟩ := hrel;have hi6 : i <= 1000000 := by omega
  rcases Nat.lt_or_ge i x.length with hix | hix
  ·have hne : x ≠ [] := List.ne_nil_of_length_pos (by omega)
   obtain ⟨bx, off, rfl, hbl, hcell⟩ := hr hne;have hx0 := hcell i hix;have hxb : x[i] < B4 := HX.out _ (List.getElem_mem hix);obtain ⟨xk, hxe⟩ : ∃ xk, xk = (x[i] : Int) := ⟨_, rfl⟩;rw [<- hxe] at hx0;have hxk0 : 0 <= xk /\ xk < 10000 := by unfold B4 at hxb; omega
   have HXE := Lib.hid hxe;clear hcell hr hxe;go_wp2_with fail;obtain ⟨wo, hwo⟩ : ∃ wo : World, wo = wr := ⟨_, rfl⟩;subst hwo;go_loopw [7] (fun t7 wr => ∃ (k : Nat) (o : List Int), k <= y.length /\ t7 = .int .i64 k /\ Hid (TimesR x y i k o) /\ ArrI .i64 wr w.heap.size 3 o /\ Below w.heap.size w wr) (fun t7 _ => y.length - (intOf t7).toNat)
   case atStart => exact ⟨0, o, Nat.zero_le _, rfl, HT, harr, hnx⟩
   case round =>
    clear harr hnx HT;obtain ⟨k, o, hkl, rfl, HT, harr, hnx⟩ := hrel;have hk6 : k <= 1000000 := by omega
    rcases Nat.lt_or_ge k y.length with hky | hky
    ·have hney : y ≠ [] := List.ne_nil_of_length_pos (by omega)
     obtain ⟨bY, offy, rfl, hbly, hcelly⟩ := hs hney;have hc2 := zcq hnx hbly (hcelly k hky);have hc1 := zcq hnx hbl hx0;have hyb : y[k] < B4 := HY.out _ (List.getElem_mem hky);have hik : i + k < o.length := by rw [HT.out.1]; omega
     have hc3 := harr.cell (i + k) hik;have hf3 := harr.frozen (i + k);obtain ⟨yk, hye⟩ : ∃ yk, yk = (y[k] : Int) := ⟨_, rfl⟩;obtain ⟨ok, hoe⟩ : ∃ ok, ok = o[i + k] := ⟨_, rfl⟩;rw [<- hye] at hc2;rw [<- hoe] at hc3;have hyk0 : 0 <= yk /\ yk < 10000 := by unfold B4 at hyb; omega
     have hok0 : 0 <= ok /\ ok <= 1000000 * 100000000 + 100000000 := by
      have := HT.out.2.1 (i + k) hik;rw [<- hoe] at this;have h5 : (if i + k < i + k then (100000000 : Int) else 0) <= 100000000 := by split <;> omega
      omega
     have hxy0 : 0 <= xk * yk := Int.mul_nonneg hxk0.1 hyk0.1;have hxy1 : xk * yk <= 9999 * 9999 := Int.mul_le_mul (by omega) (by omega) hyk0.1 (by omega);have hxy2 : xk * yk <= 99980001 := by omega
     have hin : i + k < n := by have := HT.out.1; omega
     have hstep : Hid (TimesR x y i (k + 1) (o.set (i + k) (ok + xk * yk))) := HT.out.step HX.out HY.out hix hky hik (by rw [hoe, HXE.out, hye]);have harr2 := (ArrI.drewN harr 1).set (i + k) (ok + xk * yk);have hbl2 := hnx.drew.setCell (p := ⟨w.heap.size, i + k, none⟩) (Nat.le_refl _) (.int .i64 (ok + xk * yk));have f1 : (0 : Int) <= (i : Int) + (k : Int) := by omega
     have f2 : (i : Int) + (k : Int) < (n : Int) := by omega
     have f3 : (k : Int) < (y.length : Int) := by omega
     have f4 : (i : Int) < (x.length : Int) := by omega
     clear hcelly hs hye hoe hxy1 hik HT harr hnx hyb hxb;go_wp2_with fail;go_region;go_wp2;go_roundw
     case rel => exact ⟨k + 1, _, by omega, by go_num, hstep, harr2, hbl2⟩
     case measure => simp [intOf]; omega
    ·have hke : k = y.length := by omega
     have HT2 : Hid (TimesR x y (i + 1) 0 o) := by rw [hke] at HT; exact HT.out.next hix
     clear hke HT hs;go_wp2_with fail;go_roundw
     case rel => exact ⟨i + 1, o, by omega, by go_num, HT2, harr, hnx⟩
     case measure => simp [intOf]; omega
  ·have hie : i = x.length := by omega
   have HT2 : Hid (TimesR x y x.length 0 o) := by rw [hie] at HT; exact HT
   have hlo : o.length = n := by have := HT.out.1; omega
   have hrd := harr.rd (by unfold maxLen; omega);rw [hlo] at hrd;have HRD := Lib.hid hrd;have HV : Hid (ival o = ((a * b : Nat) : Int)) := by
    unfold Hid; rw [HT2.out.val, HVX.out, HVY.out]
   have HBD := Lib.hid (HT2.out.bound (by omega));have hol : o.length <= 3000000 := by omega
   clear hie hlo hrd hr hs HT;go_wp2_with fail;refine (carry4_any _ _ _ (a * b) HRD.out hol HBD.out HV.out).mono ?_;rintro e w3 ⟨v3, rfl, hv3, hb3⟩;go_wp2_with fail;go_ret;exact ⟨_, rfl, ⟨hv3.1, fun a l c e => Nat.le_trans hnx.size (hv3.2 a l c e)⟩, hnx.trans (hb3.mono hnx.size)⟩
def dsl (s : ByteArray) (a b : Nat) : Nat := dval ((s.data.toList.take b).drop a)
theorem dsl_self (s : ByteArray) (a : Nat) : dsl s a a = 0 := by
 unfold dsl; rw [List.drop_eq_nil_of_le (by simp; omega)]; rfl
theorem dsl_step (s : ByteArray) (a b : Nat) (h : b < s.size) (hab : a <= b) : dsl s a (b + 1) = 10 * dsl s a b + (s[b].toNat - 48) := by
 unfold dsl;have hb : b < s.data.toList.length := by simpa using h
 rw [List.take_succ_eq_append_getElem hb, List.drop_append_of_le_length (by simp; omega), dval_snoc];rfl
theorem dsl_lt (s : ByteArray) (a b : Nat) (hd : ∀ c ∈ s.data.toList, isDig c) (hb : b <= a + 4) : dsl s a b < 10000 := by
 unfold dsl;refine Nat.lt_of_lt_of_le (dval_lt _ fun c hc => hd c (List.mem_of_mem_take (List.mem_of_mem_drop hc))) ?_;show 10 ^ _ <= 10 ^ 4;refine Nat.pow_le_pow_right (by decide) ?_;rw [List.length_drop, List.length_take]; omega
theorem dig_at (s : ByteArray) (hd : ∀ c ∈ s.data.toList, isDig c) (b : Nat) (h : b < s.size) : 48 <= s[b].toNat /\ s[b].toNat <= 57 := by
 have hb : b < s.data.toList.length := by simpa using h
 exact hd (s.data.toList[b]) (List.getElem_mem hb)
theorem take4_any (w : World) (s : ByteArray) (hd : ∀ c ∈ s.data.toList, isDig c) (hlen : s.size <= 3000000) :
 Calls Tryz.prog 117 #[.string s] w (Ret (fun v w' => Rd .i64 w' v (lm B4 (dval s.data.toList)) /\ FreshV w.heap.size v) w) := by
 obtain ⟨i0, hi, hz0, hz1, hz2⟩ := info_parts Tryz.info_i64;have HD := Lib.hid hd;have hsl : s.data.toList.length = s.size := by rw [Array.length_toList]; rfl
 have HSL := Lib.hid hsl;clear hd hsl;go_enter Tryz.func117, Tryz.ntmps117;go_wp2_with fail;go_loopw [3, 4] (fun t3 t4 wr => ∃ (m k : Nat) (ez : Int) (o : List Nat), t4 = .int .i64 ez /\ ez <= m /\ (0 < ez -> ez = m) /\ (ez <= 0 -> m = 0) /\ m <= s.size /\ m + k <= s.size + 1 /\ -4 <= ez /\ Hid (TakeInv s.data.toList m k o) /\ wr.ownsRow w.heap.size 3 1 t3 k (o.map fun x : Nat => Value.int .i64 (x : Int)) /\ Below w.heap.size w wr)
  (fun _ t4 _ => (intOf t4 + 4).toNat)
 case atStart => exact ⟨s.size, 0, _, [], rfl, Int.le_refl _, fun _ => rfl, fun h => by omega, Nat.le_refl _, by omega, by omega, by rw [<- HSL.out]; exact TakeInv.start _, ⟨rfl, .inl ⟨rfl, rfl⟩⟩, Below.refl _ _⟩
 case round =>
  obtain ⟨m, k, ez, o, rfl, he1, he2, he4, hms, hmk, he3, HT, hown, hnx⟩ := hrel;have hk6 : k <= 3000001 := by omega
  rcases Int.lt_or_le 0 ez with hpos | hneg
  ·obtain rfl := he2 hpos
   clear he1 he2 he3 he4;have hmp : 0 < m := by omega
   go_wp2_with fail;obtain ⟨wo, hwo⟩ : ∃ wo : World, wo = wr := ⟨_, rfl⟩;subst hwo;obtain ⟨a, ha⟩ : ∃ a, a = m - 4 := ⟨_, rfl⟩;have ham : a <= m := by omega
   have ham4 : m <= a + 4 := by omega
   have HA := Lib.hid ha;have hmax : Hid (max 0 ((m : Int) - 4) = (a : Int)) := by unfold Hid; omega
   clear ha;rw [hmax.out];go_loopw [5, 6] (fun t5 t6 wr => ∃ (j : Nat) (nz : Int), a <= j /\ j <= m /\ t6 = .int .i64 j /\ t5 = .int .i64 nz /\ Hid (nz = (dsl s a j : Nat)) /\ 0 <= nz /\ nz < 10000 /\ wr = wo) (fun _ t6 _ => m - (intOf t6).toNat)
   case atStart => exact ⟨a, 0, Nat.le_refl _, ham, rfl, rfl, by unfold Hid; rw [dsl_self]; rfl, by omega, by omega, rfl⟩
   case round =>
    obtain ⟨j, nz, haj, hjm, rfl, rfl, HNZ, hn0, hn1, rfl⟩ := hrel;have hj6 : j <= 3000000 := by omega
    rcases Nat.lt_or_ge j m with hlt | hge
    ·have hjs : j < s.size := by omega
     have hdg := dig_at s HD.out j hjs;have hst : Hid (dsl s a (j + 1) = 10 * dsl s a j + (s[j].toNat - 48)) := dsl_step s a j hjs haj;have hlt4 := dsl_lt s a (j + 1) HD.out (by omega);have HNX : Hid (10 * nz + (s[j].toNat : Int) - 48 = (dsl s a (j + 1) : Nat)) := by
      unfold Hid; rw [hst.out, HNZ.out]; omega
     have hnx1 : Hid (0 <= 10 * nz + (s[j].toNat : Int) - 48 /\ 10 * nz + (s[j].toNat : Int) - 48 < 10000) := by unfold Hid; rw [HNX.out]; omega
     clear hlt4 hst;go_wp2_with fail;go_roundw
     case rel => exact ⟨j + 1, _, by omega, by omega, by go_num, rfl, HNX, hnx1.out.1, hnx1.out.2, trivial⟩
     case measure => simp [intOf]; omega
    ·have hjm' : j = m := by omega
     have HX : Hid (TakeInv s.data.toList (m - 4) (k + 1) (o ++ [dsl s a m])) := HT.out.step HD.out (by rw [HSL.out]; omega) (by unfold dsl; rw [HA.out]);have HNM : Hid (nz = (dsl s a m : Nat)) := by rw [<- hjm']; exact HNZ
     clear hjm' HNZ HT;go_wp2_with (first | (at_builtin; refine wpList_append_own _ rfl _ _ 46 rfl w.heap.size 3 i0 (.int .i64 0) 1 8 Tryz.underlying46 hi hz0 hz1 hz2 rfl (by decide) _ _ _ rfl (hown.alloc _) ⟨wr.heap.size, 0, none⟩ 1 1 [.int .i64 nz] rfl rfl (cell_one_i64 _ _ _) (one_cell_i64 _) (by unfold maxLen; omega) (by omega) (by have := hnx.size; simp; omega) ?_));intro v' w2 hown2 hgr2 _;have hown3 : w2.ownsRow w.heap.size 3 1 v' (k + 1) ((o ++ [dsl s a m]).map fun x : Nat => Value.int .i64 (x : Int)) := by
      rw [<- map_snoc_i64, <- HNM.out]; exact hown2
     have hbl2 := below_append hnx hnx.size hown hgr2;clear hown2 hown hgr2 hnx;go_wp2_with fail;go_roundw
     case rel => exact ⟨m - 4, k + 1, _, _, rfl, by omega, by omega, by omega, by omega, by omega, by omega, HX, hown3, hbl2⟩
     case measure => simp [intOf]; omega
  ·have HT0 : Hid (dropZ o = lm B4 (dval s.data.toList)) := by
    have h0 := he4 hneg;rw [h0] at HT;exact HT.out.done
   have hlo : o.length = k := HT.out.1;have hrd : Rd .i64 wr _ o := Rd.of_owns rfl (by rw [hlo]; exact hown);have hfr := FreshV.of_owns hown;have HRD := Lib.hid hrd;clear hlo hown he2 he4 hrd;go_wp2_with fail;refine (cut4_full _ _ _ HRD.out).mono ?_;rintro e w3 ⟨v3, rfl, hv3, rfl⟩;go_wp2_with fail;go_ret;exact ⟨_, rfl, ⟨HT0.out ▸ hv3.1, hv3.2 _ hfr⟩, hnx⟩
open Go.Lib
theorem ba_append (a b : ByteArray) : (a ++ b).data.toList = a.data.toList ++ b.data.toList := by simp [ByteArray.data_append]
theorem pad4_len (x : Nat) (hx : x < 10000) : (pad 4 x).length = 4 := pad_length 4 x (by decide) hx
theorem dec_len_drop {n j : Nat} (hj : j < (lm B4 n).length) : (decDigits (lval B4 ((lm B4 n).drop j))).length <= 4 * ((lm B4 n).length - j) := by
 rw [len_decDigits_le _ _ (by omega)];have h := lval_lt B4 ((lm B4 n).drop j) (fun x hx => lm_lt B4 n two_le_B4 x (List.mem_of_mem_drop hx));rw [List.length_drop] at h;rw [Nat.pow_mul];exact h
theorem give4_any (w : World) (v : Value) (n : Nat) (h : Rd .i64 w v (lm B4 n)) (hlen : (lm B4 n).length <= 3000000) (hg : Good w) :
 Calls Tryz.prog 164 #[v] w (Ret (fun r _ => r = .string (BS (decDigits n))) w) := by
 obtain ⟨p, c, rfl, hc, hm, hr⟩ := h.open;have hm' : c <= 9223372036854775807 := hm;rcases Nat.eq_zero_or_pos n with rfl | hn
 ·rw [lm_zero] at *
  have HZ : Hid (BS (decDigits 0) = ⟨#[48]⟩) := by unfold Hid; rw [decDigits_zero]; rfl
  clear h hr;go_enter Tryz.func164, Tryz.ntmps164;go_wp2_with fail;go_ret;exact ⟨_, rfl, congrArg Value.string HZ.out.symm, Below.refl _ _⟩
 ·have hne : lm B4 n ≠ [] := lm_ne_nil B4 n two_le_B4 hn
  obtain ⟨b, off, rfl, hbl, hcell⟩ := hr hne;have hlp : 0 < (lm B4 n).length := List.length_pos_iff.2 hne;have hl0 : ((((lm B4 n).length : Nat) : Int) == 0) = false := by rw [beq_eq_false_iff_ne]; omega
  have hc0 := hcell ((lm B4 n).length - 1) (by omega);obtain ⟨tz, htz⟩ : ∃ tz : Int, tz = ((lm B4 n)[(lm B4 n).length - 1]'(by omega) : Nat) := ⟨_, rfl⟩;rw [<- htz] at hc0;have htl : ((lm B4 n)[(lm B4 n).length - 1]'(by omega) : Nat) < 10000 := lm_lt B4 n two_le_B4 _ (List.getElem_mem (show (lm B4 n).length - 1 < (lm B4 n).length by omega));have htz0 : 0 <= tz /\ tz < 10000 := by omega
  have HTZ := Lib.hid htz;have HCELL := Lib.hid hcell;have HLT := Lib.hid (lm_lt B4 n two_le_B4);clear h hr hcell htz htl hne;go_enter Tryz.func164, Tryz.ntmps164;go_wp2_with fail;refine (itoa_any tz (by omega) (by omega) _ hg).mono ?_;rintro e w1 ⟨_, rfl, rfl, hb1⟩;have hS : Hid (IS tz = BS (decDigits (lval B4 ((lm B4 n).drop ((lm B4 n).length - 1))))) := by
   unfold Hid;rw [(give_last (show (lm B4 n).length - 1 < (lm B4 n).length by omega)).1, HTZ.out, <- itoa_nat]; rfl
  rw [hS.out];go_wp2_with fail;go_loopw [3, 4] (fun t3 t4 wr => ∃ (j : Nat) (iz : Int) (S : ByteArray), t4 = .int .i64 iz /\ Hid (iz = (j : Int) - 1) /\ -1 <= iz /\ iz < (lm B4 n).length /\ j < (lm B4 n).length /\ t3 = .string S /\ Hid (S = BS (decDigits (lval B4 ((lm B4 n).drop j)))) /\ Below w.heap.size w wr) (fun _ t4 _ => (RowKit.intOf t4 + 1).toNat)
  case atStart => exact ⟨(lm B4 n).length - 1, _, _, rfl, by unfold Hid; omega, by omega, by omega, by omega, rfl, rfl, hb1⟩
  case round =>
   clear hb1 hc0 hl0;obtain ⟨j, iz, S, rfl, HI, hi1, hi2, hjl, rfl, HS, hnx⟩ := hrel;rcases Int.lt_or_le iz 0 with hneg | hge
   ·have hj0 : Hid (S = BS (decDigits n)) := by
     have : j = 0 := by have := HI.out; omega
     unfold Hid;rw [HS.out, this, List.drop_zero, lval_lm B4 n two_le_B4]
    go_wp2_with fail;go_ret;exact ⟨_, rfl, congrArg Value.string hj0.out, hnx⟩
   ·obtain ⟨i, rfl⟩ : ∃ i : Nat, iz = (i : Int) := ⟨iz.toNat, by omega⟩
    have hij : Hid (j = i + 1) := by have := HI.out; unfold Hid; omega
    have hil : i < (lm B4 n).length := by omega
    have hc1 := zcq hnx hbl (HCELL.out i hil);have hxl : ((lm B4 n)[i] : Nat) < 10000 := HLT.out _ (List.getElem_mem hil);obtain ⟨xz, hxz⟩ : ∃ xz : Int, xz = ((lm B4 n)[i] : Nat) := ⟨_, rfl⟩;rw [<- hxz] at hc1;have hxz0 : 0 <= xz /\ xz < 10000 := by omega
    have HXZ := Lib.hid hxz;have hSl : S.size <= 12000000 := by
     have := dec_len_drop hjl;rw [HS.out, BS_size]; omega
    have hIT : Hid (IS (10000 + xz) = BS (49 :: pad 4 (lm B4 n)[i])) := by
     unfold Hid;have h1 := decDigits_shift 1 4 (lm B4 n)[i] (by decide) (by decide) hxl;rw [show 1 * 10 ^ 4 + (lm B4 n)[i] = 10000 + (lm B4 n)[i] from rfl, decDigits_one (i := 1) (by omega)] at h1;rw [HXZ.out, show (10000 + ((lm B4 n)[i] : Nat) : Int) = ((10000 + (lm B4 n)[i] : Nat) : Int) by omega];unfold IS;rw [itoa_nat, h1]; rfl
    have hgr := hg.below hnx;have hpl := pad4_len (lm B4 n)[i] hxl;have HPL := Lib.hid hpl;clear hxl hxz hi1 hpl;go_wp2_with fail;refine (itoa_any (10000 + xz) (by omega) (by omega) _ hgr).mono ?_;rintro e w2 ⟨_, rfl, rfl, hb2⟩;have hIT2 : Hid ((IS (10000 + xz)).size = 5) := by unfold Hid; rw [hIT.out, BS_size, List.length_cons, HPL.out]
    generalize IS (10000 + xz) = T at *;have hT1 : 5 <= T.size := by rw [hIT2.out]; omega
    have hT2 : T.size <= 5 := by rw [hIT2.out]; omega
    have hT3 : (T.extract 1 T.size).size <= 4 := by rw [ByteArray.size_extract]; omega
    have hT3' := hT3;rw [ByteArray.size_extract] at hT3';have HSX : Hid (S ++ T.extract 1 T.size = BS (decDigits (lval B4 ((lm B4 n).drop i)))) := by
     unfold Hid;have hi1 : i + 1 < (lm B4 n).length := by have := hij.out; omega
     have hS2 := HS.out;rw [hij.out] at hS2;rw [give_step hil (lval_drop_pos hi1), hS2, hIT.out];apply ba_ext;rw [BS_list, ba_append, BS_list, extract_to_end, BS_list];rfl
    have hbel := hnx.trans (hb2.mono hnx.size);go_wp2_with fail;go_roundw
    case rel => exact ⟨i, _, _, rfl, by unfold Hid; omega, by omega, by omega, hil, rfl, HSX, hbel⟩
    case measure => simp [RowKit.intOf]
def sgn (m : Bool) (n : Nat) : Int := if m then -(n : Int) else n
theorem made_any (w : World) (m : Bool) (v : Value) (l : List Nat) (hl : ∀ z ∈ l, z < B4) (h : Rd .i64 w v l) (hlen : l.length <= 3000000) (hg : Good w) :
 Calls Tryz.prog 119 #[.bool m, v] w (Ret (fun r _ => r = .string (IS (sgn m (lval B4 l)))) w) := by
 have hd := dropZ_eq B4 two_le_B4 l hl;obtain ⟨n, hn⟩ : ∃ n, lval B4 l = n := ⟨_, rfl⟩;rw [hn] at hd ⊢;have hll : (lm B4 n).length <= 3000000 := by
  refine Nat.le_trans (lm_len_le B4 n l.length two_le_B4 ?_) hlen;rw [<- hn]; exact lval_lt B4 l hl
 obtain ⟨p, c, rfl, hc, hm, hr⟩ := h.open;have hm' : c <= 9223372036854775807 := hm;have HD := Lib.hid hd;have HH := Lib.hid h;clear h hd hn hr;go_enter Tryz.func119, Tryz.ntmps119;go_wp2_with fail;refine (cut4_any _ _ _ HH.out).mono ?_;rintro e w3 ⟨v3, rfl, hv3, rfl⟩;rw [HD.out] at hv3;obtain ⟨p3, c3, rfl, hc3, hm3, hr3⟩ := hv3.open;have HV := Lib.hid hv3;clear hv3 hr3;rcases Nat.eq_zero_or_pos n with rfl | hn0
 ·rw [lm_zero] at *
  go_wp2_with (go_at_call 164; refine (give4_any _ _ 0 (by rw [lm_zero]; exact HV.out) (by rw [lm_zero]; simp) hg).mono ?_; rintro e w2 ⟨_, rfl, rfl, hb2⟩);all_goals
   go_ret;exact ⟨_, rfl, congrArg Value.string (by rw [show sgn m 0 = ((0 : Nat) : Int) by cases m <;> rfl]; unfold IS; rw [itoa_nat]; rfl), hb2⟩
 ·have hl0 : 0 < (lm B4 n).length := List.length_pos_iff.2 (lm_ne_nil B4 n two_le_B4 hn0)
  have HP : Hid ((⟨#[45]⟩ : ByteArray) ++ BS (decDigits n) = IS (-(n : Int))) := by
   unfold Hid;apply ba_ext;rw [ba_append, BS_list, IS_list, itoa_neg (by omega)];simp
  have hS : (BS (decDigits n)).size <= 12000000 := by
   have := dec_len_drop (n := n) (j := 0) hl0;rw [List.drop_zero, lval_lm B4 n two_le_B4] at this;rw [BS_size]; omega
  cases m;all_goals
   go_wp2_with (go_at_call 164; refine (give4_any _ _ n HV.out hll hg).mono ?_; rintro e w2 ⟨_, rfl, rfl, hb2⟩);go_ret;first
    | exact ⟨_, rfl, congrArg Value.string HP.out, hb2⟩
    | exact ⟨_, rfl, congrArg Value.string (show BS (decDigits n) = IS (sgn false n) from by unfold IS; rw [show sgn false n = ((n : Nat) : Int) from rfl, itoa_nat]; rfl), hb2⟩
theorem parts_any (w : World) (va vb : Value) (a b : Nat) (ha : Rd .i64 w va (lm B4 a)) (hb : Rd .i64 w vb (lm B4 b)) (hb0 : 0 < b)
 (hla : (lm B4 a).length <= 900000) (hlb : (lm B4 b).length <= 900000) :
 Calls Tryz.prog 116 #[va, vb] w (Ret (fun v w' => ∃ vq vr, v = .tuple #[vq, vr] /\ Rd .i64 w' vq (lm B4 (a / b)) /\ Rd .i64 w' vr (lm B4 (a % b))) w) := by
 obtain ⟨i0, hi, hz0, hz1, hz2⟩ := info_parts Tryz.info_i64;obtain ⟨p, c, rfl, hc, hm, hr⟩ := ha.open;have HX := Lib.hid (lm_lt B4 a two_le_B4);have HVX := Lib.hid (lval_lm B4 a two_le_B4);obtain ⟨q, d, rfl, hd, hm2, hs⟩ := hb.open;have HB := Lib.hid hb;have HA := Lib.hid ha;clear ha hb hs;have hnil : ∀ x : World, Rd .i64 x (.slice none 0 0) (lm B4 0) := fun x => by rw [lm_zero]; exact RdC.nil0 _ _
 have HNIL := Lib.hid hnil;clear hnil;have hm' : c <= 9223372036854775807 := hm;have hn' : d <= 9223372036854775807 := hm2;go_enter Tryz.func116, Tryz.ntmps116;go_wp2_with (first | (at_make; refine wpList_make_full _ rfl _ _ 46 rfl w.heap.size 3 i0 (.int .i64 0) 1 Tryz.underlying46 hi hz0 hz1 _ _ _ _ (lm B4 a).length rfl rfl (by omega) (by omega) (by rw [hz2]; omega) (by unfold maxLen; omega) (Nat.le_refl _) ?_; intro w1 hown hgr));have harr : Arr .i64 w1 w.heap.size 3 (List.replicate (lm B4 a).length 0) := Arr.of_full rfl hown;have hb1 : Below w.heap.size w w1 := (Below.refl _ _).grown hgr (Nat.le_refl _) (fun k hk => by cases hk);have hstart : Hid (QuoAt B4 (lm B4 a) b (lm B4 a).length (List.replicate (lm B4 a).length 0)) := QuoAt.start (by decide) _ _;clear hgr hown;have hgs : w.heap.size + 1 <= w1.heap.size := harr.lt;go_loopw [7, 8] (fun t7 t8 wr => ∃ (i : Nat) (iz : Int) (qd : List Nat) (r : Nat), i <= (lm B4 a).length /\ t8 = .int .i64 iz /\ Hid (iz = (i : Int) - 1) /\ -1 <= iz /\ iz < 1000000 /\ Hid (QuoAt B4 (lm B4 a) b i qd) /\ Hid (r = lval B4 ((lm B4 a).drop i) % b)
  /\ Rd .i64 wr t7 (lm B4 r) /\ FreshV (w.heap.size + 1) t7 /\ Arr .i64 wr w.heap.size 3 qd /\ Below w.heap.size w wr /\ w.heap.size + 1 <= wr.heap.size) (fun _ t8 _ => (RowKit.intOf t8 + 1).toNat)
 case atStart =>
  refine ⟨(lm B4 a).length, _, _, 0, Nat.le_refl _, rfl, rfl, by omega, by omega, hstart, ?_, HNIL.out _, (by intro a l c e; cases e), harr, hb1, hgs⟩;unfold Hid; rw [List.drop_eq_nil_of_le (Nat.le_refl _)]; simp [lval]
 case round =>
  clear harr hb1 hgs hstart;obtain ⟨i, iz, qd, r, hil, rfl, HI, hi1, hi2, HQ, HR, hr7, hf7, harr, hnx, hgs⟩ := hrel;have hrb : r < b := by rw [HR.out]; exact Nat.mod_lt _ hb0
  have hrl : (lm B4 r).length <= (lm B4 b).length := lm_len_le B4 r _ two_le_B4 (Nat.lt_trans hrb (lm_len_lt B4 b two_le_B4));have hql : qd.length = (lm B4 a).length := HQ.out.1;have HQL := Lib.hid hql;obtain ⟨p7, c7, rfl, hc7, hm7, hr7'⟩ := hr7.open;have HR7 := Lib.hid hr7;clear hr7 hql;rcases (by omega : iz < 0 \/ 0 <= iz) with hneg | hge
  ·have HQ0 : Hid (dropZ qd = lm B4 (a / b) /\ r = a % b) := by
    have h0 : i = 0 := by have := HI.out; omega
    have h1 := HQ.out;have h2 := HR.out;rw [h0] at h1 h2;refine ⟨?_, ?_⟩
    ·rw [QuoAt.done two_le_B4 h1, HVX.out]
    ·rw [h2, List.drop_zero, HVX.out]
   have hrd := harr.rd (by unfold maxLen; rw [HQL.out]; omega);rw [HQL.out] at hrd;have HRD := Lib.hid hrd;clear hrd hr7';go_wp2_with fail;refine (cut4_any _ _ _ HRD.out).mono ?_;rintro e w3 ⟨v3, rfl, hv3, rfl⟩;rw [HQ0.out.1] at hv3;obtain ⟨p3, c3, rfl, hc3, hm3, hr3⟩ := hv3.open;clear hr3;go_wp2_with fail;refine bodyPost_ret (v := .tuple #[.slice p3 (lm B4 (a / b)).length c3, .slice p7 (lm B4 r).length c7]) (by simp [results, Tryz.results116, go_sem]) rfl ?_;exact ⟨_, rfl, ⟨_, _, rfl, hv3, by rw [<- HQ0.out.2]; exact HR7.out⟩, hnx⟩
  ·obtain ⟨k, rfl⟩ : ∃ k : Nat, iz = (k : Int) := ⟨iz.toNat, by omega⟩
   have hik : Hid (i = k + 1) := by have := HI.out; unfold Hid; omega
   have hkl : k < (lm B4 a).length := by have := hik.out; omega
   have hne : lm B4 a ≠ [] := List.ne_nil_of_length_pos (by omega);obtain ⟨bX, oX, rfl, hblX, hcX⟩ := hr hne;have hx0 := zcq hnx hblX (hcX k hkl);have hxb : (lm B4 a)[k] < B4 := HX.out _ (List.getElem_mem hkl);obtain ⟨xz, hxz⟩ : ∃ xz : Int, xz = ((lm B4 a)[k] : Nat) := ⟨_, rfl⟩;rw [<- hxz] at hx0;have HXZ := Lib.hid hxz;have hk6 : k <= 1000000 := by omega
   have hr6 : (lm B4 r).length <= 1000000 := by omega
   obtain ⟨R, hR⟩ : ∃ R, R = r * B4 + (lm B4 a)[k] := ⟨_, rfl⟩;have hcd : Hid (dropZ ((lm B4 a)[k] :: lm B4 r) = lm B4 R) := by unfold Hid; rw [hR]; exact lm_cons_drop two_le_B4 hxb
   have hRb : R < b * 10000 := by
    rw [hR];have h1 : (r + 1) * B4 <= b * B4 := Nat.mul_le_mul_right _ hrb;rw [Nat.add_mul] at h1;unfold B4 at *;omega
   have HRR := Lib.hid hR;have hRl : (lm B4 R).length <= 1000000 := by
    refine Nat.le_trans (lm_len_le B4 R ((lm B4 b).length + 1) two_le_B4 ?_) (by omega);refine Nat.lt_of_lt_of_le hRb ?_;rw [Nat.pow_succ];exact Nat.mul_le_mul_right _ (Nat.le_of_lt (lm_len_lt B4 b two_le_B4))
   have hQk : Hid (∀ d, d = R / b -> QuoAt B4 (lm B4 a) b k (qd.set k d)) := by
    intro d hd;have h1 := HQ.out;have h2 := HR.out;rw [hik.out] at h1 h2;exact h1.step hb0 HX.out hkl h2 (by rw [hd, hR])
   have hRk : Hid (R % b = lval B4 ((lm B4 a).drop k) % b) := by
    unfold Hid;have h2 := HR.out;rw [hik.out] at h2;rw [hR]; exact rest_step hkl h2
   have HRB := Lib.hid hRb;clear hxz hcX hr hR hxb hrb hi1 hi2 hRb;go_upto_region 6 with fail;go_cut [7] (fun s7 wx => Rd .i64 wx s7 (lm B4 R) /\ FreshV (w.heap.size + 1) s7 /\ Arr .i64 wx w.heap.size 3 qd /\ Below w.heap.size w wx /\ w.heap.size + 1 <= wx.heap.size)
   case first =>
    rcases Nat.eq_zero_or_pos r with hr0 | hrpos
    ·subst hr0
     rw [lm_zero] at *;have hone : Rd .i64 (wr.alloc (.cells #[.int .i64 xz] 3)) (.slice (some ⟨wr.heap.size, 0, none⟩) 1 1) [(lm B4 a)[k]] := by
      refine ⟨_, _, rfl, Nat.le_refl _, by unfold maxLen; omega, rfl, fun _ => ⟨wr.heap.size, 0, rfl, fun i x hx => ?_⟩⟩;cases i with
      | zero => simp at hx; rw [World.cell?_alloc_at _ _ _ _ rfl, <- hx, <- HXZ.out]; rfl
      | succ i => simp at hx
     have HONE := Lib.hid hone;have hfr1 : FreshV (w.heap.size + 1) (.slice (some ⟨wr.heap.size, 0, none⟩) 1 1) := by intro a' l' c' e; cases e; exact hgs
     clear hone;cases p7;all_goals
      go_wp2_with fail;refine (cut4_full _ _ _ HONE.out).mono ?_;rintro e w3 ⟨v3, rfl, ⟨hv3, hf3⟩, rfl⟩;rw [hcd.out] at hv3;go_wp2_with fail;go_meet;exact ⟨hv3, hf3 _ hfr1, (heap_old _ _ _ harr.lt).trans harr, hnx.alloc (by omega) _, by simp; omega⟩
    ·have hner : lm B4 r ≠ [] := lm_ne_nil B4 r two_le_B4 hrpos
     obtain ⟨b5, o5, rfl, hbl5, hc5'⟩ := hr7' hner;have hrow : (wr.alloc (.cells #[.int .i64 xz] 3)).ownsRow wr.heap.size 3 1 (.slice (some ⟨wr.heap.size, 0, none⟩) 1 1) 1 [.int .i64 xz] :=
      ⟨rfl, .inr ⟨wr.heap.size, 1, _, rfl, Nat.le_refl _, heap_alloc_new _ _, Nat.le_refl _, by unfold maxLen; omega, rfl, rfl⟩⟩
     have hnews : ∀ j u, ((lm B4 r).map fun x : Nat => Value.int .i64 (x : Int))[j]? = some u -> (wr.alloc (.cells #[.int .i64 xz] 3)).cell? ((⟨b5, o5, none⟩ : Addr).add j) = some u := by
      intro j u hu;have hj : j < (lm B4 r).length := by have := (List.getElem?_eq_some_iff.1 hu).1; simpa using this
      rw [List.getElem?_map, List.getElem?_eq_getElem hj] at hu;cases hu;rw [addr_add];show (wr.alloc (.cells #[.int .i64 xz] 3)).cell? ⟨b5, o5 + j, none⟩ = some (.int .i64 (((lm B4 r)[j] : Nat) : Int));exact cell_alloc_l _ (hc5' j hj)
     have hnew1 : ∀ u ∈ (lm B4 r).map fun x : Nat => Value.int .i64 (x : Int), u.oneCell' = true := by
      intro u hu;obtain ⟨y, _, rfl⟩ := List.mem_map.1 hu;rfl
     have HNEWS := Lib.hid hnews;clear hnews hc5' hr7';go_wp2_with (first | (at_builtin; refine wpList_append_own _ rfl _ _ 46 rfl wr.heap.size 3 i0 (.int .i64 0) 1 8 Tryz.underlying46 hi hz0 hz1 hz2 rfl (by decide) _ _ _ rfl hrow ⟨b5, o5, none⟩ (lm B4 r).length c7 ((lm B4 r).map fun x : Nat => Value.int .i64 (x : Int)) rfl (by simp) HNEWS.out hnew1 (by unfold maxLen; omega) (by omega) (by simp) ?_));intro v' w2 hown2 hgr2 _;have hrd2 : Rd .i64 w2 v' ((lm B4 a)[k] :: lm B4 r) := by
      refine Rd.of_owns (base := wr.heap.size) (e := 3) rfl ?_;rw [List.length_cons, Nat.add_comm, List.map_cons, <- HXZ.out];exact hown2
     have hfr2 : FreshV (w.heap.size + 1) v' := fun a' l' c' e => Nat.le_trans hgs (FreshV.of_owns hown2 a' l' c' e);have hB3 : Below w.heap.size w w2 := (hnx.alloc (by omega) _).grown hgr2 (by simp; omega) (fun k hk => by have e : wr.heap.size = k := (Option.some.inj hk); omega);have harr3 : Arr .i64 w2 w.heap.size 3 qd := (hgr2.block w.heap.size (by simp; omega) (by intro e; have e : w.heap.size = wr.heap.size := (Option.some.inj e); omega)).trans ((heap_old _ _ _ harr.lt).trans harr);have hw2s : w.heap.size + 1 <= w2.heap.size := by have := hgr2.size; simp at this; omega
     have HRD2 := Lib.hid hrd2;clear hown2 hgr2 hrd2 hrow HNEWS hnew1;go_wp2_with fail;refine (cut4_full _ _ _ HRD2.out).mono ?_;rintro e w3 ⟨v3, rfl, ⟨hv3, hf3⟩, rfl⟩;rw [hcd.out] at hv3;go_wp2_with fail;go_meet;exact ⟨hv3, hf3 _ hfr2, harr3, hB3, hw2s⟩
   case rest =>
    obtain ⟨hs7, hfs7, harr', hnx', hgs'⟩ := hcut;clear hr7' HR7 harr hnx hgs hf7 hx0;obtain ⟨p8, c8, rfl, hc8, hm8, hr8⟩ := hs7.open;have HS7 := Lib.hid hs7;clear hs7 hr8;go_wp2_with fail;obtain ⟨wo, hwo⟩ : ∃ wo : World, wo = wr := ⟨_, rfl⟩;subst hwo;go_loopw [9, 10] (fun t9 t10 wr => ∃ (lo hi : Nat), t9 = .int .i64 lo /\ t10 = .int .i64 hi /\ lo <= hi /\ hi <= 9999 /\ Hid (lo * b <= R /\ R < (hi + 1) * b) /\ Below wc.heap.size wc wr) (fun t9 t10 _ => (RowKit.intOf t10).toNat - (RowKit.intOf t9).toNat)
    case atStart => exact ⟨0, 9999, rfl, rfl, by omega, by omega, ⟨by omega, by have := HRB.out; omega⟩, Below.refl _ _⟩
    case round =>
     obtain ⟨lo, hi, rfl, rfl, hlh, hh9, HLH, hbel⟩ := hrel;have HBw : Hid (Rd .i64 wr (.slice q (lm B4 b).length d) (lm B4 b)) := RdC.below HB.out (hnx'.trans (hbel.mono hnx'.size));have HRw : Hid (Rd .i64 wr (.slice p8 (lm B4 R).length c8) (lm B4 R)) := RdC.below HS7.out hbel;have hb6 : (lm B4 b).length <= 1000000 := by omega
     rcases Nat.lt_or_ge lo hi with hlt | hge'
     ·obtain ⟨mid, hmid⟩ : ∃ mid : Nat, mid = (lo + hi + 1) / 2 := ⟨_, rfl⟩
      have hm1 : lo < mid /\ mid <= hi := by omega
      have HM : Hid (((lo : Int) + hi + 1) / 2 = (mid : Int)) := by unfold Hid; omega
      have hn0 : Hid (((0 : Nat) : Int) + (mid : Int) * (b : Int) = ((mid * b : Nat) : Int)) := by unfold Hid; push_cast; omega
      have hml : (lm B4 (mid * b)).length <= 1000000 := by
           refine Nat.le_trans (lm_len_le B4 (mid * b) ((lm B4 b).length + 1) two_le_B4 ?_) (by omega);rw [Nat.pow_succ, Nat.mul_comm];exact Nat.mul_lt_mul_of_lt_of_le (lm_len_lt B4 b two_le_B4) (by unfold B4; omega) (by decide)
      clear hmid;rcases Nat.lt_or_ge R (mid * b) with hR1 | hR1
      case' inl =>
           have hdb : Hid (decide (R < mid * b) = true) := decide_eq_true hR1
      case' inr =>
           have hdb : Hid (decide (R < mid * b) = false) := decide_eq_false (by omega)
      all_goals
           have HR1 := Lib.hid hR1;clear hR1;go_wp2_with fail;rw [HM.out];refine (joined4_any _ _ _ 0 b (mid * b) (mid : Int) (HNIL.out _) HBw.out (by omega) hn0.out (by rw [lm_zero]; simp) hb6).mono ?_;rintro e w2 ⟨v2, rfl, ⟨hv2, _⟩, hb2⟩;go_wp2_with fail;refine (less4_any _ _ _ R (mid * b) (RdC.below HRw.out hb2) hv2).mono ?_;rintro e w3 ⟨_, rfl, rfl, j3, rfl⟩;rw [hdb.out];have hbel3 : Below wc.heap.size wc (w2.drewN j3) := hbel.trans ((hb2.trans ((below_drewN w2 j3).mono hb2.size)).mono hbel.size);clear hb2 hv2;go_wp2_with fail;go_roundw
           case rel =>
            first
             | exact ⟨lo, mid - 1, rfl, by congr 1; omega, by omega, by omega, ⟨HLH.out.1, by rw [show mid - 1 + 1 = mid by omega]; exact HR1.out⟩, hbel3⟩
             | exact ⟨mid, hi, rfl, rfl, by omega, by omega, ⟨HR1.out, HLH.out.2⟩, hbel3⟩
           case measure => simp [RowKit.intOf]; omega
     ·have hlo : Hid (lo = R / b) := by
           have h1 : lo = hi := by omega
           have h2 := HLH.out;unfold Hid;rw [<- h1] at h2;exact ((Nat.div_eq_iff hb0).2 ⟨by omega, by rw [Nat.add_mul] at h2; omega⟩).symm
      have hn0 : Hid ((R : Int) + (-(lo : Int)) * (b : Int) = ((R % b : Nat) : Int)) := by
           unfold Hid;have := Nat.div_add_mod R b;rw [<- hlo.out] at this;generalize R % b = y at *;rw [<- this, Nat.mul_comm];push_cast;rw [Int.neg_mul]; omega
      have harr2 : Arr .i64 wr w.heap.size 3 qd := Arr.below harr' hbel;have hqk : k < qd.length := by rw [HQL.out]; exact hkl
      have hck := harr2.cell k hqk;have hcf := harr2.frozen k;have harr3 := harr2.set k lo (u := .int .i64 lo) rfl;have hb3 : Below w.heap.size w (wr.setCell ⟨w.heap.size, k, none⟩ (.int .i64 lo)) := (hnx'.trans (hbel.mono hnx'.size)).setCell (Nat.le_refl _) _;have HRx : Hid (Rd .i64 (wr.setCell ⟨w.heap.size, k, none⟩ (.int .i64 lo)) (.slice p8 (lm B4 R).length c8) (lm B4 R)) := RdC.set_fresh HRw.out hfs7 _;have HBx : Hid (Rd .i64 (wr.setCell ⟨w.heap.size, k, none⟩ (.int .i64 lo)) (.slice q (lm B4 b).length d) (lm B4 b)) := RdC.below HB.out hb3;have hgs3 : w.heap.size + 1 <= (wr.setCell ⟨w.heap.size, k, none⟩ (.int .i64 lo)).heap.size := by have := hbel.size; simp [World.setCell]; omega
      have f1 : (0 : Int) <= (k : Int) := by omega
      have f2 : (k : Int) < ((lm B4 a).length : Int) := by omega
      clear HRw HBw harr2;go_wp2_with fail;refine (joined4_any _ _ _ R b (R % b) (-(lo : Int)) HRx.out HBx.out (by omega) hn0.out hRl hb6).mono ?_;rintro e w2 ⟨v2, rfl, ⟨hv2, hf2⟩, hb2⟩;have harr4 := Arr.below harr3 hb2;have hb4 := hb3.trans (hb2.mono hb3.size);have hf4 : FreshV (w.heap.size + 1) v2 := fun a' l' c' e => Nat.le_trans hgs3 (hf2 a' l' c' e);have hgs4 : w.heap.size + 1 <= w2.heap.size := Nat.le_trans hgs3 hb2.size;clear hb2 hb3 harr3 HRx HBx hgs3 hck hcf hf2;go_wp2_with fail;go_roundw
      case rel => exact ⟨k, _, qd.set k lo, R % b, by omega, rfl, rfl, by omega, by omega, hQk.out lo hlo.out, hRk, hv2, hf4, harr4, hb4, hgs4⟩
      case measure => simp [RowKit.intOf]
end Go.Proofs.YtbfcmipplhkkeaaGreatDoor
