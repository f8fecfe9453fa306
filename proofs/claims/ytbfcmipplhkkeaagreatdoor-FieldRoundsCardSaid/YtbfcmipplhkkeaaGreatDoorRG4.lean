import Derived.Test.YtbfcmipplhkkeaaGreatDoorRG1
import Derived.StillTailTactics
import Derived.Laws.EntriesVeiled
/- Mesh -/
set_option maxHeartbeats 4000000
set_option maxRecDepth 100000
namespace Go.Proofs.YtbfcmipplhkkeaaGreatDoor
open Go.RowKit Go.Lib Go.Maps
theorem wpList_next_edges {P : Program} (w : World) {ops : Array Oper} {rest : List Oper} {o : Oper} {a : Act} {Q : Exit -> Act -> World -> Prop} (hg : o.guard = none) (it : Operand) (hop : o.op = Op.next it false)
 (k e : Nat) (K : Keyed P k) (he : P.underlying e = some (.int .i64)) (lit : Edge -> Lit) (In : Edge -> Prop) (hkey : ∀ s, In s -> keyOf P k (.agg #[.int .i64 s.1, .int .i64 s.2]) = some (lit s))
 (b r n : Nat) (D : DataW Unit) (left : Lit -> Bool) (cnt : Nat) (hit : a.eval it = .pointer (some ⟨r, 0, none⟩)) (h : w.ranges P k (plainElem P e) b r n D left cnt) (hleft : ∀ kl, left kl = true -> ∃ s, In s /\ kl = lit s)
 (hDone : cnt = 0 -> (∀ kl, left kl = false) -> wpList P ops Q rest (a.put o.dst (.tuple #[.bool false])) w)
 (hMore : ∀ (x y c : Int) (w' : World) (cnt' : Nat), In (x, y) -> left (lit (x, y)) = true -> w'.ranges P k (plainElem P e) b r n D (fun z => left z && !z.sameKey (lit (x, y))) cnt' -> cnt' < cnt ->
   w.grownBy w' (some r) -> w'.heap.size = w.heap.size -> (Instr.entry (.pointer (some ⟨r, 0, none⟩))).run P w' = .ok (.tuple #[.agg #[.int .i64 x, .int .i64 y], .int .i64 c]) w' -> wpList P ops Q rest (a.put o.dst (.tuple #[.bool true, .agg #[.int .i64 x, .int .i64 y], .int .i64 c])) w') :
 wpList P ops Q (o :: rest) a w := by
 refine wpList_plain hg fun K' hK' => ?_;unfold Oper.wp;rcases h.next K o.type with ⟨h0, hl, hrun⟩ | ⟨key, v, kl, y, w', cnt', hkl, hlk, hv, hat, hrun, hrg, hlt, hgr, hsz, hen⟩
 ·simp [execOp, hop, hit, hrun, Result.andThen]
  exact hK' _ _ (hDone h0 hl)
 ·obtain ⟨s, hs, rfl⟩ := hleft kl hlk
  have := K.inj hkl (hkey s hs);subst this;obtain ⟨c, rfl, rfl, hwc⟩ := plainElem_int_inv he hv;simp [execOp, hop, hit, hrun, Result.andThen];exact hK' _ _ (hMore s.1 s.2 c w' cnt' hs hlk hrg hlt hgr hsz hen)
theorem decide_pos_isEmpty {α : Type} (l : List α) : decide (0 < l.length) = !l.isEmpty := by cases l <;> simp
def sliceLen : Value -> Nat
 | .slice _ n _ => n
 | _ => 0
theorem ownsRow_shape {w : World} {base e sz n : Nat} {v : Value} {xs : List Value} (h : w.ownsRow base e sz v n xs) : ∃ p c, v = .slice p n c := by
 obtain ⟨h1, h2⟩ := h;rcases h2 with ⟨rfl, h0⟩ | ⟨g, cap, cur, rfl, _⟩
 ·subst h0; exact ⟨_, _, rfl⟩
 ·exact ⟨_, _, rfl⟩
theorem info_i64 : ((Tryz.prog).info? 3).map (fun i => (i.zero, i.size, i.bytes)) = some (some (.int .i64 0), 1, 8) := by kernel_rfl
def OuterP (E : List Edge) (n : Nat) (v : Value) (w' : World) : Prop := ∃ s, v = .tuple #[s, .bool (!(outerL E).isEmpty)] /\ RdI .i64 w' s (outerL E) /\ FreshV n s
theorem outer_any (w : World) (vp vt : Value) (bm n : Nat) (D : DataW Unit) (L : List (Edge × Int)) (hm : MapL viewE 3 (Lit.int .i64) w bm n D L) (hn : (L.map (·.1)).Nodup) (_hn2 : n <= 1000000) (hlen : L.length <= 1000000)
 (hE : ∀ s ∈ L.map (·.1), (0 <= s.1 /\ s.1 < 1000000) /\ (0 <= s.2 /\ s.2 < 1000000)) :
 Calls Tryz.prog 35 #[.agg #[vp, vt], .map (some bm)] w (Ret (OuterP (L.map (·.1)) w.heap.size) w) := by
 obtain ⟨E, hEE⟩ : ∃ E, E = L.map (·.1) := ⟨_, rfl⟩;rw [<- hEE] at hE hn ⊢;have HE := hid hE;have HEE := hid hEE;have HN := hid hn;have HM := hid hm;clear hE hEE hn hm;have hmm := @run_makeMap Tryz.prog;have hbm : bm < w.heap.size := HM.out.owns.lt;go_enter Tryz.func35, Tryz.ntmps35;go_wp2_with (at_range; refine wpList_range_own _ rfl _ 100 rfl 83 3 lawE und_EI _ bm n D rfl (((HM.out.owns.alloc _).alloc _)) ?_; intro w0 hrg0 hg0 hs0);have hr : ((w.alloc (.cells #[vp, vt] 35)).alloc (.map #[] 0)).heap.size = w.heap.size + 2 := by simp
 rw [hr] at hrg0 hs0 ⊢;clear hr
 go_frame
 have hB0 : Below w.heap.size w w0 := (((Below.refl _ _).alloc (Nat.le_refl _) _).alloc (by simp) _).grown hg0 (by simp; omega) (fun j e => by cases e);have hz0 : w.heap.size + 3 <= w0.heap.size := by omega
 have hm2 : MapL (β := Int) viewI 3 (Lit.int .i64) w0 (w.heap.size + 1) 0 (.map []) [] := by
  have := (MapL.made (β := Int) (w.alloc (.cells #[vp, vt] 35)) viewI 3 (Lit.int .i64)).kept hg0 (by simp);simpa using this
 have HL0 : Hid (∀ kl, Maps.has D kl = true -> ∃ s, (InE s /\ s ∈ E) /\ kl = kE s) := fun kl hk => by
  obtain ⟨s, hs, rfl⟩ := HM.out.2.2.2 kl hk;exact ⟨s, ⟨hs, by rw [HEE.out]; exact (HM.out.has_iff hs).1 hk⟩, rfl⟩
 have HI0 : Hid (OutInv E (fun s => Maps.has D (kE s)) (-1) []) := OutInv.start _ _ fun s hs => (HM.out.has_iff (V := viewE) (by have := HE.out s hs; exact ⟨⟨by omega, by omega⟩, ⟨by omega, by omega⟩⟩)).2 (by rw [<- HEE.out]; exact hs)
 clear hg0 hs0;have HLEN : Hid (∀ (left : Edge -> Bool) (f : Int) (L2 : List Edge), OutInv E left f L2 -> L2.length <= 1000000) := fun left f L2 h => by
  have h3 := h.length HN.out;have h4 : E.length = L.length := by rw [HEE.out]; simp
  omega
 go_loopw [7] (fun t7 wr => ∃ (left : Lit -> Bool) (cnt : Nat) (f : Int) (D2 : DataW Unit) (L2 : List Edge), t7 = .int .i64 f /\ Hid (OutInv E (fun s => left (kE s)) f L2) /\ Hid (∀ kl, left kl = true -> ∃ s, (InE s /\ s ∈ E) /\ kl = kE s) /\
  Hid (wr.ranges Tryz.prog 83 (plainElem Tryz.prog 3) bm (w.heap.size + 2) n D left cnt) /\ Hid (MapL viewI 3 (Lit.int .i64) wr (w.heap.size + 1) L2.length D2 L2) /\ Hid (Maps.size D2 = L2.length) /\ (-1 <= f /\ f < 1000000) /\ Below w.heap.size w wr /\ w.heap.size + 3 <= wr.heap.size) (fun _ wr => wr.rangeLeft bm (w.heap.size + 2))
 case atStart => exact ⟨_, _, -1, _, [], rfl, HI0, HL0, hid hrg0, hid hm2, rfl, ⟨by omega, by omega⟩, hB0, hz0⟩
 case round =>
  obtain ⟨left, cnt, f, D2, L2, rfl, HI, HL, HR, HM2, HSZ2, ⟨hf1, hf2⟩, hB, hz⟩ := hrel;clear hrg0 hm2 HL0 HI0 hB0 hz0;go_wp2_with (at_next; refine wpList_next_edges _ rfl _ rfl 83 3 lawE und_I kE (fun s => InE s /\ s ∈ E) (fun s hs => keyE hs.1.1 hs.1.2) bm (w.heap.size + 2) n D left cnt rfl HR.out HL.out ?_ ?_)
  ·intro _ hl0
   have HF : Hid (outerL E = (chase L2 f L2.length f []).getD []) := outerL_of HN.out (fun s hs => (HE.out s hs).1.1) HI.out (fun s _ => hl0 _);have HND : Hid ((L2.map (·.1)).Nodup) := HI.out.2.1;have HLB : Hid (∀ s ∈ L2, (0 <= s.1 /\ s.1 < 1000000) /\ (0 <= s.2 /\ s.2 < 1000000)) := fun s hs => HE.out s (mem_bordOf.1 ((HI.out.1 s).1 hs).1).1;have hl2 := HLEN.out _ _ _ HI.out;clear hl0 HR HL HI HLEN;go_wp2_with fail;obtain ⟨i0, hi, hzz0, hzz1, hzz2⟩ := info_parts info_i64;obtain ⟨wo, hwo⟩ : ∃ wo : World, wo = wr := ⟨_, rfl⟩;subst hwo;obtain ⟨N, hN⟩ : ∃ N, N = L2.length := ⟨_, rfl⟩;have HNN := hid hN;have HSZ : Hid (Maps.size D2 = N) := by
    unfold Hid;rw [hN];exact HSZ2.out
   rw [<- hN] at hl2 HM2;clear hN;go_loopw [13, 14] (fun t13 t14 wr => ∃ (out : List Int) (a : Int), t14 = .int .i64 a /\ wr.ownsRow (w.heap.size + 3) 3 1 t13 out.length (out.map (Value.int .i64)) /\ out.length <= N /\ Hid (chase L2 f (N - out.length) a out = chase L2 f N f []) /\ (-1 <= a /\ a < 1000000) /\
    Hid (MapL viewI 3 (Lit.int .i64) wr (w.heap.size + 1) N D2 L2) /\ Below w.heap.size w wr /\ w.heap.size + 3 <= wr.heap.size) (fun t13 _ _ => N - sliceLen t13)
   case atStart => exact ⟨[], f, rfl, World.ownsRow_nil _ _ _ _, Nat.zero_le _, rfl, ⟨hf1, hf2⟩, HM2, hB, hz⟩
   case round =>
    obtain ⟨out, a, rfl, hown, hol, HC, ⟨ha1, ha2⟩, HM3, hB3, hz3⟩ := hrel;clear HM2 hB hz;obtain ⟨p13, c13, rfl⟩ := ownsRow_shape hown;have hlen2 := (HM3.out.owns.len und_II 3);rw [HSZ.out] at hlen2;rcases Nat.lt_or_ge out.length N with hlt | hge
    ·have haI : InI a := ⟨by omega, by omega⟩
     have HKA : Hid (keyOf Tryz.prog 3 (.int .i64 a) = some (kI a)) := keyI haI;have HMM := hid (HM3.out.has_iff (V := viewI) (s := a) haI);obtain ⟨m, hm⟩ : ∃ m, N - out.length = m + 1 := ⟨N - out.length - 1, by omega⟩;have HMS := hid hm;clear hm;cases hin : Maps.has D2 (viewI.lit a)
     ·have HX : Hid (outerL E = []) := by
       unfold Hid;rw [HF.out, <- HNN.out, <- HC.out, HMS.out];unfold chase;rw [nxtOf_none.2 (fun h => by have := HMM.out.2 h; rw [hin] at this; cases this)];rfl
      have HIN := hid hin;clear hin;go_wp2_with (at_lookup; refine wpList_lookup_own_ok_int _ rfl _ _ 153 rfl 3 3 .i64 lawI und_II und_I (zeroI _) (w.heap.size + 1) N D2 rfl HM3.out.owns _ _ rfl HKA.out ?_; rw [show Maps.has D2 (kI a) = false from HIN.out]; intro cz2 hat hwc; clear hat hwc);go_ret2;exact ⟨_, rfl, ⟨_, by rw [HX.out]; rfl, by rw [HX.out]; exact RdC.nil0 _ _, fun a l c e => by cases e⟩, hB3⟩
     ·obtain ⟨⟨a', b⟩, hab, rfl⟩ := List.mem_map.1 (HMM.out.1 hin)
      have HAB := hid hab;have HIN := hid hin;dsimp only at *;have hbb := (HLB.out _ hab).2;dsimp only at hbb;obtain ⟨hb1, hb2⟩ := hbb;have HCH : Hid (chase L2 f (N - out.length) a' out = if a' = f /\ out ≠ [] then none else chase L2 f m b (out ++ [a'])) := by
       unfold Hid;rw [HMS.out]
       conv => lhs; unfold chase
       rw [(nxtOf_mem HND.out).2 hab]
      clear hab hin;have htests : ((a' == f) = true /\ 0 < out.length) \/ ((a' == f) = true /\ ¬ 0 < out.length) \/ ((a' == f) = false) := by
       by_cases e : a' = f
       ·rcases Nat.eq_zero_or_pos out.length with h0 | h0
        ·exact .inr (.inl ⟨by simpa using e, by omega⟩)
        ·exact .inl ⟨by simpa using e, h0⟩
       ·exact .inr (.inr (by simpa using e))
      rcases htests with ⟨t1, t2⟩ | htests
      ·have HX : Hid (outerL E = []) := by
        unfold Hid;rw [HF.out, <- HNN.out, <- HC.out, HCH.out, if_pos ⟨by simpa using t1, List.ne_nil_of_length_pos t2⟩];rfl
       go_wp2_with (at_lookup; refine wpList_lookup_own_ok_int _ rfl _ _ 153 rfl 3 3 .i64 lawI und_II und_I (zeroI _) (w.heap.size + 1) N D2 rfl HM3.out.owns _ _ rfl HKA.out ?_; rw [show Maps.has D2 (kI a') = true from HIN.out]; intro cz2 hat hwc; clear hat hwc);go_ret2;exact ⟨_, rfl, ⟨_, by rw [HX.out]; rfl, by rw [HX.out]; exact RdC.nil0 _ _, fun a l c e => by cases e⟩, hB3⟩
      ·have HNX : Hid (chase L2 f (N - (out ++ [a']).length) b (out ++ [a']) = chase L2 f N f []) := by
        unfold Hid;rw [<- HC.out, HCH.out, if_neg, List.length_append]
        ·congr 1
         have := HMS.out;simp only [List.length_singleton];omega
        ·rintro ⟨e1, e2⟩
         rcases htests with ⟨_, t⟩ | t
         ·exact t (List.length_pos_iff.2 e2)
         ·rw [e1] at t; simp at t
       rcases htests with ⟨t1, t2⟩ | t1
       all_goals
        have tok1 : True := trivial;go_wp2_with (first
         | (at_lookup; have _t := tok1; refine wpList_lookup_own_ok_int _ rfl _ _ 153 rfl 3 3 .i64 lawI und_II und_I (zeroI _) (w.heap.size + 1) N D2 rfl HM3.out.owns _ _ rfl HKA.out ?_; rw [show Maps.has D2 (kI a') = true from HIN.out]; intro cz2 hat hwc; clear hat hwc tok1)
         | (at_builtin; refine wpList_append_own _ rfl _ _ 46 rfl (w.heap.size + 3) 3 i0 (.int .i64 0) 1 8 Tryz.underlying46 hi hzz0 hzz1 hzz2 rfl (by decide) _ _ _ rfl (hown.alloc _) ⟨wr.heap.size, 0, none⟩ 1 1 [.int .i64 a'] rfl rfl (cell_one_i64 _ _ _) (one_cell_i64 _) (by unfold maxLen; omega) (by omega) (by simp; omega) ?_
            intro v2 w2 hown2 hgrow2 _;have hzw2 := hgrow2.size;have HM4 : Hid (MapL viewI 3 (Lit.int .i64) w2 (w.heap.size + 1) N D2 L2) := (HM3.out.kept (World.grownBy_alloc _ _ none) (by simp)).kept hgrow2 (fun e => by have := (hown.lt _ e.symm).1; omega);have hB4 : Below w.heap.size w w2 := (hB3.alloc (by omega) _).grown hgrow2 (by simp; omega) (fun k hk => by have := (hown.lt k hk).1; omega);clear hgrow2)
         | (at_lookup; refine wpList_lookup_own_int _ rfl _ _ 153 rfl 3 3 .i64 lawI und_II und_I (zeroI _) (w.heap.size + 1) N D2 rfl HM4.out.owns _ _ rfl HKA.out ?_; intro cz3 hat3 hwc3
            obtain rfl : cz3 = b := by
             have h1 := hat3.symm.trans (HM4.out.at HAB.out _);simp at h1;exact h1
            clear hat3 hwc3))
        go_roundw
        case rel => exact ⟨out ++ [a'], cz3, rfl, by rw [List.map_append, List.length_append]; exact hown2, by rw [List.length_append, List.length_singleton]; omega, HNX, ⟨by omega, hb2⟩, HM4, hB4, by simp at hzw2; omega⟩
        case measure =>
         obtain ⟨p2, c2, rfl⟩ := ownsRow_shape hown2;simp [sliceLen];omega
    ·have HX : Hid (outerL E = out) := by
      unfold Hid;rw [HF.out, <- HNN.out, <- HC.out, show N - out.length = 0 by omega];rfl
     have hfr : FreshV (w.heap.size + 3) (.slice p13 out.length c13) := FreshV.of_owns hown;have hrd : RdI .i64 wr (.slice p13 out.length c13) out := RdC.of_owns hown;go_wp2_with fail;go_ret2;exact ⟨_, rfl, ⟨.slice p13 out.length c13, by rw [HX.out]; exact congrArg (fun b => Value.tuple #[.slice p13 out.length c13, .bool b]) (decide_pos_isEmpty out), by rw [HX.out]; exact hrd, fun a l c e => by have := hfr a l c e; omega⟩, hB3⟩
  ·intro x y c w1 cnt1 hinE hin hl hrg1 hlt1 hg1 hs1 hen
   have hv := HE.out (x, y) hin;obtain ⟨⟨hx0, hx1⟩, hy0, hy1⟩ := hv;have hxz : InI x := ⟨by omega, by omega⟩;have hrevIn : InE (y, x) := ⟨⟨by omega, by omega⟩, hxz⟩;have HB1 : Hid (Below w.heap.size w w1) := hB.grown hg1 (by omega) (fun j e => by cases e; omega);have hz1 : w.heap.size + 3 <= w1.heap.size := by omega
   have HM21 : Hid (MapL viewI 3 (Lit.int .i64) w1 (w.heap.size + 1) L2.length D2 L2) := HM2.out.kept hg1 (by simp);have HR1 := hid hrg1;have hl2 := HLEN.out _ _ _ HI.out;have HMU : Hid (cnt1 < wr.rangeLeft bm (w.heap.size + 2)) := by unfold Hid; rw [HR.out.left_eq]; exact hlt1
   have HLL : Hid (∀ kl, (left kl && !kl.sameKey (kE (x, y))) = true -> ∃ s, (InE s /\ s ∈ E) /\ kl = kE s) := fun kl h => HL.out kl (by simp at h; exact h.1)
   have HNE : Hid (∀ t ∈ E, t ≠ (x, y) -> (left (kE t) && !(kE t).sameKey (kE (x, y))) = left (kE t)) := fun t ht hne => by
    have htE : InE t := by have := HE.out t ht; exact ⟨⟨by omega, by omega⟩, ⟨by omega, by omega⟩⟩
    rw [sameKey_ne (fun e => hne (kE_inj htE.1 htE.2 hinE.1 hinE.2 e))]; simp
   have HSE : Hid ((left (kE (x, y)) && !(kE (x, y)).sameKey (kE (x, y))) = false) := by unfold Hid; rw [WideAt.sameKey_self (lawE.key (keyE hinE.1 hinE.2))]; simp
   have hr1 := (HM.out.has_iff (V := viewE) hrevIn);rw [<- HEE.out] at hr1;have HRV := hid hr1;have HK1 : Hid (keyOf Tryz.prog 83 (.agg #[.int .i64 y, .int .i64 x]) = some (kE (y, x))) := keyE hrevIn.1 hrevIn.2;have HK2 : Hid (keyOf Tryz.prog 3 (.int .i64 x) = some (kI x)) := keyI hxz;clear hg1 hs1 hrg1 hlt1 hr1 hB HR HM2;cases hin2 : Maps.has D (viewE.lit (y, x))
   ·have hnb : (y, x) ∉ E := fun h => by have := HRV.out.2 h; rw [hin2] at this; cases this
    have HNB := hid hnb;have HIN2 := hid hin2;clear hnb hin2;cases hin3 : Maps.has D2 (viewI.lit x)
    ·have hnew : x ∉ L2.map (·.1) := fun h => by have := (HM21.out.has_iff (V := viewI) hxz).2 h; rw [hin3] at this; cases this
     have HNW := hid hnew;have HIN3 := hid hin3;clear hnew hin3;have HFF : Hid (∀ f', f' = (if f < 0 \/ x < f then x else f) -> OutInv E (fun s => left (kE s) && !(kE s).sameKey (kE (x, y))) f' (L2 ++ [(x, y)])) := fun f' hf' =>
      HI.out.outer hin HNB.out HNW.out hx0 (fun t ht => (HE.out t (mem_bordOf.1 ((HI.out.1 t).1 ht).1).1).1.1) HNE.out HSE.out hf'
     have tok1 : True := trivial;rcases (by omega : f < 0 \/ (¬ f < 0 /\ x < f) \/ (¬ f < 0 /\ ¬ x < f)) with h7 | ⟨h7, h8⟩ | ⟨h7, h8⟩
     all_goals
      go_wp2_with (first
       | (at_lookup; have _t := tok1; refine wpList_lookup_own_ok_int _ rfl _ _ 100 rfl 83 3 .i64 lawE und_EI und_I (zeroI _) bm n D rfl (HR1.out.owns.alloc _) _ _ rfl HK1.out ?_; rw [show Maps.has D (kE (y, x)) = false from HIN2.out]; intro cz hat hwc; clear hat hwc tok1)
       | (at_lookup; refine wpList_lookup_own_ok_int _ rfl _ _ 153 rfl 3 3 .i64 lawI und_II und_I (zeroI _) (w.heap.size + 1) L2.length D2 rfl (HM21.out.owns.alloc _) _ _ rfl HK2.out ?_; rw [show Maps.has D2 (kI x) = false from HIN3.out]; intro cz2 hat hwc; clear hat hwc)
       | (at_mapUpdate; refine wpList_mapUpdate_own _ rfl _ _ _ 153 rfl 3 3 lawI und_II _ (w.heap.size + 1) L2.length D2 rfl (HM21.out.owns.alloc _) (by unfold maxLen; omega) _ _ _ rfl rfl HK2.out _ [] (plainElem_int und_I (WalkArith.wf_i64 (by omega))) ?_; intro w2 hown2 hgrow2
          have hbk : w2.heap[w1.heap.size]? = some (.cells #[.int .i64 x, .int .i64 y] 83) := (hgrow2.block _ (by simp) (by simp; omega)).trans (World.alloc_heap_new _ _);have k0 : w2.cell? ⟨w1.heap.size, 0, none⟩ = some (.int .i64 x) := by simp [World.cell?, hbk]
          clear hbk))
      go_roundw
      case rel =>
       refine ⟨fun z => left z && !z.sameKey (kE (x, y)), cnt1, _, D2.put (kI x) (.lit (.int .i64 y)), L2 ++ [(x, y)], rfl, hid (HFF.out _ ?_), HLL, hid ((HR1.out.alloc _).kept hgrow2 (by simp; omega) (by simp)), ?_, ?_, ?_, (HB1.out.alloc (by omega) _).grown hgrow2 (by simp; omega) (fun j e => by cases e; omega), by have := hgrow2.size; simp at this; omega⟩
       ·first | rw [if_pos (show f < 0 \/ x < f by omega)] | rw [if_neg (show ¬ (f < 0 \/ x < f) by omega)]
       ·have := (HM21.out.kept (World.grownBy_alloc _ (.cells #[.int .i64 x, .int .i64 y] 83) none) (by simp)).put (i := y) (s := x) hxz (fun j hj => absurd (List.mem_map.2 ⟨_, hj, rfl⟩) HNW.out) hown2
        unfold Hid;rw [List.length_append];exact this
       ·unfold Hid
        rw [Maps.size_put (HM21.out.owns.tidy lawI), show Maps.has D2 (kI x) = false from HIN3.out, List.length_append, HSZ2.out];rfl
       ·omega
      case measure =>
       rw [((HR1.out.alloc (.cells #[.int .i64 x, .int .i64 y] 83)).kept hgrow2 (by simp; omega) (by simp)).left_eq];exact HMU.out
    ·have hold : x ∈ L2.map (·.1) := (HM21.out.has_iff (V := viewI) hxz).1 hin3
     have HTW : Hid (outerL E = []) := outerL_twice (outer_twice HI.out hin HNB.out hl hold);have HIN3 := hid hin3;clear hold hin3;have tok1 : True := trivial;go_wp2_with (first
      | (at_lookup; have _t := tok1; refine wpList_lookup_own_ok_int _ rfl _ _ 100 rfl 83 3 .i64 lawE und_EI und_I (zeroI _) bm n D rfl (HR1.out.owns.alloc _) _ _ rfl HK1.out ?_; rw [show Maps.has D (kE (y, x)) = false from HIN2.out]; intro cz hat hwc; clear hat hwc tok1)
      | (at_lookup; refine wpList_lookup_own_ok_int _ rfl _ _ 153 rfl 3 3 .i64 lawI und_II und_I (zeroI _) (w.heap.size + 1) L2.length D2 rfl (HM21.out.owns.alloc _) _ _ rfl HK2.out ?_; rw [show Maps.has D2 (kI x) = true from HIN3.out]; intro cz2 hat hwc; clear hat hwc))
     go_ret2;exact ⟨_, rfl, ⟨_, by rw [HTW.out]; rfl, by rw [HTW.out]; exact RdC.nil0 _ _, fun a l c e => by cases e⟩, HB1.out.alloc (by omega) _⟩
   ·have hnb : (y, x) ∈ E := HRV.out.1 hin2
    have HIN2 := hid hin2;have HFF : Hid (OutInv E (fun s => left (kE s) && !(kE s).sameKey (kE (x, y))) f L2) := HI.out.inner (s := (x, y)) hnb HNE.out;clear hnb hin2;go_wp2_with (at_lookup; refine wpList_lookup_own_ok_int _ rfl _ _ 100 rfl 83 3 .i64 lawE und_EI und_I (zeroI _) bm n D rfl (HR1.out.owns.alloc _) _ _ rfl HK1.out ?_; rw [show Maps.has D (kE (y, x)) = true from HIN2.out]; intro cz hat hwc; clear hat hwc);go_roundw
    case rel => exact ⟨fun z => left z && !z.sameKey (kE (x, y)), cnt1, f, D2, L2, rfl, HFF, HLL, hid (HR1.out.alloc _), HM21.out.kept (World.grownBy_alloc _ _ none) (by simp), HSZ2, ⟨hf1, hf2⟩, HB1.out.alloc (by omega) _, by simp; omega⟩
    case measure =>
     rw [(HR1.out.alloc (.cells #[.int .i64 x, .int .i64 y] 83)).left_eq];exact HMU.out
def strP (P : List PtQ) : List PtS := P.map fun p => (RS p.1, RS p.2)
theorem strP_length (P : List PtQ) : (strP P).length = P.length := by simp [strP]
structure OnceEnv (W : World) (bm bc bn : Nat) (P : List PtQ) (c : List Int) : Prop where
 pts : ∃ vp, W.cell? ⟨bm, 0, none⟩ = some vp /\ RdP W vp (strP P)
 cyc : ∃ vc, W.cell? ⟨bc, 0, none⟩ = some vc /\ RdI .i64 W vc c
 num : W.cell? ⟨bn, 0, none⟩ = some (.int .i64 c.length)
theorem OnceEnv.below {W W' : World} {bm bc bn : Nat} {P : List PtQ} {c : List Int} (h : OnceEnv W bm bc bn P c) (hb : Below W.heap.size W W') : OnceEnv W' bm bc bn P c := by
 obtain ⟨⟨vp, h1, h2⟩, ⟨vc, h3, h4⟩, h5⟩ := h;exact ⟨⟨vp, (zcq hb (World.block_lt_of_cell? W _ h1) h1 :), RdC.below h2 hb⟩, ⟨vc, (zcq hb (World.block_lt_of_cell? W _ h3) h3 :), RdC.below h4 hb⟩, (zcq hb (World.block_lt_of_cell? W _ h5) h5 :)⟩
structure OnceOK (P : List PtQ) (c : List Int) (k : Nat) : Prop where
 pos : 0 < c.length
 len : c.length <= 1000000
 plen : P.length <= 1000000
 idx : ∀ x ∈ c, 0 <= x /\ x < P.length
 kpos : 0 < k
 klim : k <= 2000
 sz : ∀ p ∈ P, SzP k p
theorem OnceOK.at {P : List PtQ} {c : List Int} {k : Nat} (h : OnceOK P c k) (i : Nat) : ∃ (j m : Nat) (hj : j < c.length) (hm : m < P.length), i % c.length = j /\ c[j] = (m : Int) /\ ptAt P c i = P[m] := by
 have hj : i % c.length < c.length := Nat.mod_lt _ h.pos;have hx := h.idx _ (List.getElem_mem hj);refine ⟨i % c.length, (c[i % c.length]).toNat, hj, by omega, rfl, by omega, ?_⟩;unfold ptAt;rw [List.getElem?_eq_getElem hj, Option.getD_some, List.getElem?_eq_getElem (by omega), Option.getD_some]
theorem OnceOK.szAt {P : List PtQ} {c : List Int} {k : Nat} (h : OnceOK P c k) (i : Nat) : SzP k (ptAt P c i) := by
 obtain ⟨j, m, hj, hm, _, _, e⟩ := h.at i;rw [e]; exact h.sz _ (List.getElem_mem hm)
theorem point_any (W : World) (bm bc bn : Nat) (P : List PtQ) (c : List Int) (k : Nat) (he : OnceEnv W bm bc bn P c) (ho : OnceOK P c k) (i : Nat) (iz : Int) (hiz : iz = (i : Int)) (hi : i <= 4000000) :
 Calls Tryz.prog 166 #[.int .i64 iz, .pointer (some ⟨bm, 0, none⟩), .pointer (some ⟨bc, 0, none⟩), .pointer (some ⟨bn, 0, none⟩)] W (Ret (fun r _ => r = .agg #[.string (RS (ptAt P c i).1), .string (RS (ptAt P c i).2)]) W) := by
 obtain ⟨j, m, hj, hm, e1, e2, e3⟩ := ho.at i;obtain ⟨⟨vp, c1, r1⟩, ⟨vc, c2, r2⟩, c3⟩ := he;obtain ⟨p1, q1, rfl, a1, a2, a3⟩ := r1.open;obtain ⟨p2, q2, rfl, b1, b2, b3⟩ := r2.open;rw [strP_length] at a1 c1;obtain ⟨g1, o1, rfl, hg1, hc1⟩ := a3 (by intro e; have h := strP_length P; rw [e] at h; simp at h; omega);obtain ⟨g2, o2, rfl, hg2, hc2⟩ := b3 (by intro e; rw [e] at hj; simp at hj);obtain ⟨d1, d2⟩ := hc1 m (by rw [strP_length]; exact hm);have d3 := hc2 j hj;rw [e2] at d3;rw [show (strP P)[m]'(by rw [strP_length]; exact hm) = (RS P[m].1, RS P[m].2) by simp [strP]] at d1 d2;dsimp only at d1 d2;rw [<- show ptAt P c i = P[m] from e3] at d1 d2;have hpl := ho.plen;have hcl := ho.len;have hcp := ho.pos;obtain ⟨n, hn⟩ : ∃ n, n = c.length := ⟨_, rfl⟩;rw [<- hn] at e1 c2 c3 hcl hcp hj b1;have hrem : iz.tmod (n : Int) = (j : Int) := by rw [hiz, <- e1]; exact (Int.ofNat_tmod i n).symm
 have hrem2 : iz % (n : Int) = (j : Int) := by rw [hiz, <- e1]; exact (Int.natCast_emod i n).symm
 have hne : n ≠ 0 := by omega
 have hne2 : ((n : Int) == 0) = false := by rw [beq_eq_false_iff_ne]; omega
 have hwr : IntKind.i64.wrap (j : Int) = (j : Int) := IntWalk.i64_in _ (by omega);obtain ⟨pt, hpt⟩ : ∃ pt, pt = ptAt P c i := ⟨_, rfl⟩;rw [<- hpt] at d1 d2 ⊢;have hjn : (j : Int) < (n : Int) := by omega
 have hmn : (m : Int) < (P.length : Int) := by omega
 have hi0 : 0 <= iz := by omega
 have hi1 : iz <= 4000000 := by omega
 have hn1 : 1 <= (n : Int) := by omega
 clear hn hiz e1 e2 e3 hc1 hc2 a3 b3 r1 r2 ho hpt;go_enter Tryz.func166, Tryz.ntmps166;go_wp2_with fail;obtain ⟨W2, hW2⟩ : ∃ W2, W2 = W.alloc (.cells #[.string ⟨#[]⟩, .string ⟨#[]⟩] 50) := ⟨_, rfl⟩;have hb2 : Below W.heap.size W W2 := by rw [hW2]; exact zal _ _
 have r0 : W2.heap[W.heap.size]? = some (.cells #[.string ⟨#[]⟩, .string ⟨#[]⟩] 50) := by rw [hW2]; exact World.alloc_heap_new _ _
 have r1 : W2.cell? ⟨W.heap.size, 0, none⟩ = some (.string ⟨#[]⟩) := by simp [World.cell?, r0]
 have r2 : W2.cell? ⟨W.heap.size, 1, none⟩ = some (.string ⟨#[]⟩) := by simp [World.cell?, r0]
 have r3 : W2.frozen? ⟨W.heap.size, 0, none⟩ = false := by simp [World.frozen?, r0]
 have r4 : W2.frozen? ⟨W.heap.size, 1, none⟩ = false := by simp [World.frozen?, r0]
 have k1 := zcq hb2 (World.block_lt_of_cell? W _ c1) c1;have k2 := zcq hb2 (World.block_lt_of_cell? W _ c2) c2;have k3 := zcq hb2 (World.block_lt_of_cell? W _ c3) c3;have k4 := zcq hb2 hg1 d1;have k5 := zcq hb2 hg1 d2;have k6 := zcq hb2 hg2 d3;rw [<- hW2];have HW := hid hW2;have HR := hid r0;clear hW2 r0 c1 c2 c3 d1 d2 d3;have hbd : Below W.heap.size W W2.drew := hb2.trans ((below_drewN W2 1).mono hb2.size)
 go_still_tail 10, (by kernel_rfl)
 change wpList _ _ _ _ _ W2.drew;go_wp2_with fail;have f1 : (((W2.setCell ⟨W.heap.size, 0, none⟩ (.string (RS pt.1))).setCell ⟨W.heap.size, 1, none⟩ (.string (RS pt.2))).drew).cell? ⟨W.heap.size, 0, none⟩ = some (.string (RS pt.1)) := by
  show ((W2.setCell ⟨W.heap.size, 0, none⟩ (.string (RS pt.1))).setCell ⟨W.heap.size, 1, none⟩ (.string (RS pt.2))).cell? ⟨W.heap.size, 0, none⟩ = _;rw [World.cell?_setCell_other _ _ _ _ (by simp)];exact World.cell?_setCell_same' _ _ _ (by rw [r1]; rfl)
 have f2 : (((W2.setCell ⟨W.heap.size, 0, none⟩ (.string (RS pt.1))).setCell ⟨W.heap.size, 1, none⟩ (.string (RS pt.2))).drew).cell? ⟨W.heap.size, 1, none⟩ = some (.string (RS pt.2)) := by
  show ((W2.setCell ⟨W.heap.size, 0, none⟩ (.string (RS pt.1))).setCell ⟨W.heap.size, 1, none⟩ (.string (RS pt.2))).cell? ⟨W.heap.size, 1, none⟩ = _;exact World.cell?_setCell_same' _ _ _ (by rw [World.cell?_setCell_other _ _ _ _ (by simp), r2]; rfl)
 exact bodyPost_ret (v := .agg #[.string (RS pt.1), .string (RS pt.2)]) (by simp [results, Tryz.results166, go_sem, f1, f2]) rfl ⟨_, rfl, rfl, ((hb2.setCell (p := ⟨W.heap.size, 0, none⟩) (Nat.le_refl _) _).setCell (p := ⟨W.heap.size, 1, none⟩) (Nat.le_refl _) _).drew⟩
theorem fld_P0 (x y : Value) (w : World) : (Instr.field 50 (.agg #[x, y]) 0).run Tryz.prog w = .ok x w := by kernel_rfl
theorem fld_P1 (x y : Value) (w : World) : (Instr.field 50 (.agg #[x, y]) 1).run Tryz.prog w = .ok y w := by kernel_rfl
theorem cmpQ_pos (p q : Rat) : (0 < cmpQ p q) ↔ q < p := by
 unfold cmpQ;split
 ·rename_i h
  exact ⟨fun h1 => by omega, fun h1 => absurd h (Rat.not_lt.2 (Rat.le_of_lt h1))⟩
 ·split
  ·rename_i h; exact ⟨fun _ => h, fun _ => by omega⟩
  ·rename_i h; exact ⟨fun h1 => by omega, fun h1 => absurd h1 h⟩
theorem cmpQ_zero (p q : Rat) : (cmpQ p q = 0) ↔ p = q := by
 unfold cmpQ;split
 ·rename_i h; exact ⟨fun h1 => by omega, fun h1 => by subst h1; exact absurd h Rat.lt_irrefl⟩
 ·split
  ·rename_i h; exact ⟨fun h1 => by omega, fun h1 => by subst h1; exact absurd h Rat.lt_irrefl⟩
  ·rename_i h1 h2; exact ⟨fun _ => Rat.le_antisymm (Rat.not_lt.1 h2) (Rat.not_lt.1 h1), fun _ => rfl⟩
theorem cmpQ_range (p q : Rat) : -1 <= cmpQ p q /\ cmpQ p q <= 1 := by unfold cmpQ; split; omega; split <;> omega
def upFn (bm bc bn : Nat) : Value := .func (.func 166) #[] #[.pointer (some ⟨bm, 0, none⟩), .pointer (some ⟨bc, 0, none⟩), .pointer (some ⟨bn, 0, none⟩)]
theorem upper_any (W : World) (bp bm bc bn : Nat) (P : List PtQ) (c : List Int) (k : Nat) (he : OnceEnv W bm bc bn P c) (hp : W.cell? ⟨bp, 0, none⟩ = some (upFn bm bc bn)) (ho : OnceOK P c k) (hg : Good W) (i : Nat) (iz : Int) (hiz : iz = (i : Int)) (hi : i <= 3000000) :
 Calls Tryz.prog 167 #[.int .i64 iz, .pointer (some ⟨bp, 0, none⟩)] W (Ret (fun r _ => r = .bool (upAt P c i)) W) := by
 have hbp := World.block_lt_of_cell? W _ hp;dsimp only at hbp;have s1 := ho.szAt (i + 1);have s0 := ho.szAt i;obtain ⟨p1, hp1⟩ : ∃ p1, p1 = ptAt P c (i + 1) := ⟨_, rfl⟩;obtain ⟨p0, hp0⟩ : ∃ p0, p0 = ptAt P c i := ⟨_, rfl⟩;have HO := hid ho;have HS1 := hid s1;have HS0 := hid s0;have HE := hid (he.below (below_drewN W 1));have hgd : Good W.drew := hg.drewN 1;have hkp := ho.kpos;have hkl := ho.klim;have HUP : Hid (upAt P c i = upB p0 p1) := by unfold Hid; rw [hp0, hp1]; rfl
 have HP1 := hid hp1;have HP0 := hid hp0;have hiz1 : iz + 1 = ((i + 1 : Nat) : Int) := by omega
 have HI1 := hid hiz1;have HI0 := hid hiz;have hi0 : 0 <= iz := by omega
 have hi1 : iz <= 3000000 := by omega
 have w1 : IntKind.i64.wrap (iz + 1) = iz + 1 := IntWalk.i64_in _ (by omega);have hp' := hp;unfold upFn at hp';clear ho s1 s0 he hp1 hp0 hiz hiz1 hp;have u0 := fld_P0;have u1 := fld_P1;go_enter Tryz.func167, Tryz.ntmps167;go_wp2_with fail;go_region_held3 (fun w' => w'.cell? ⟨bp, 0, none⟩ = some (.func (.func 166) #[] #[.pointer (some ⟨bm, 0, none⟩), .pointer (some ⟨bc, 0, none⟩), .pointer (some ⟨bn, 0, none⟩)]))
  (first | exact hp' | exact q_1_0 | exact q_2_0 | exact q_3_0)
  (first
  | (go_at_call 104; refine (ratCompare_any (ptAt P c (i + 1)).2 (ptAt P c i).2 k hkp (by omega) HS1.out.2 HS0.out.2 _ qg2).mono ?_; rintro e qw3 ⟨_, rfl, rfl, qb3⟩
     have q_3_0 := zct qb3 q_2_0;have qs3 := qb3.size;have qg3 := qg2.below qb3)
  | (go_at_call 166; refine (point_any qw1 bm bc bn P c k HE1.out HO.out i iz HI0.out (by omega)).mono ?_; rintro e qw2 ⟨_, rfl, rfl, qb2⟩
     have q_2_0 := zct qb2 q_1_0;have qs2 := qb2.size;have qg2 := qg1.below qb2;have HE2 := hid (HE1.out.below qb2))
  | (go_at_call 166; refine (point_any W.drew bm bc bn P c k HE.out HO.out (i + 1) (iz + 1) HI1.out (by omega)).mono ?_; rintro e qw1 ⟨_, rfl, rfl, qb1⟩
     have q_1_0 := zct qb1 hp';have qs1 : W.heap.size <= qw1.heap.size := qb1.size;have qg1 := hgd.below qb1;have HE1 := hid (HE.out.below qb1)))
 have qB : Below W.heap.size W qw3 := zbt (zbt (zbt (below_drewN W 1) qb1) qb2) qb3;have HE3 := hid ((HE2.out.below qb3).below (below_drewN qw3 1));have hg3 : Good qw3.drew := qg3.drewN 1;have hq3 := q_3_0;clear HE HE1 HE2 qb1 qb2 qb3 q_1_0 q_2_0 q_3_0 qg1 qg2 hp';rw [<- HP1.out, <- HP0.out];generalize hy : cmpQ p1.2 p0.2 = y;have hyr := cmpQ_range p1.2 p0.2;rw [hy] at hyr;have HY := hid hy;clear hy;rcases (by omega : y = 1 \/ y = 0 \/ y = -1) with h | h | h
 ·have HR : Hid (true = upAt P c i) := by
   unfold Hid; rw [HUP.out];have h1 := (cmpQ_pos p1.2 p0.2).1 (by rw [HY.out]; omega);unfold upB; rw [decide_eq_true h1]; rfl
  subst h;go_wp2_with fail;go_quiet (fail);go_wp2_with fail;go_ret;exact ⟨_, rfl, congrArg Value.bool HR.out, qB.trans ((below_drewN qw3 nq).mono qB.size)⟩
 ·have HR : Hid (decide (0 < cmpQ p1.1 p0.1) = upAt P c i) := by
   unfold Hid; rw [HUP.out];have e := (cmpQ_zero p1.2 p0.2).1 (by rw [HY.out]; omega);have h1 : ¬ p0.2 < p1.2 := by rw [e]; exact Rat.lt_irrefl
   unfold upB;rw [decide_eq_false h1, decide_eq_true e.symm, Bool.false_or, Bool.true_and];exact decide_eq_decide.2 (cmpQ_pos _ _)
  subst h;go_wp2_with fail;go_region_held3 (fun w' => w'.cell? ⟨bp, 0, none⟩ = some (.func (.func 166) #[] #[.pointer (some ⟨bm, 0, none⟩), .pointer (some ⟨bc, 0, none⟩), .pointer (some ⟨bn, 0, none⟩)]))
   (first | exact hq3 | exact r_1_0 | exact r_2_0 | exact r_3_0)
   (first
   | (go_at_call 104; refine (ratCompare_any (ptAt P c (i + 1)).1 (ptAt P c i).1 k hkp (by omega) HS1.out.1 HS0.out.1 _ rg2).mono ?_; rintro e rw3 ⟨_, rfl, rfl, rb3⟩
      have r_3_0 := zct rb3 r_2_0;have rs3 := rb3.size;have rg3 := rg2.below rb3)
   | (go_at_call 166; refine (point_any rw1 bm bc bn P c k HE4.out HO.out i iz HI0.out (by omega)).mono ?_; rintro e rw2 ⟨_, rfl, rfl, rb2⟩
      have r_2_0 := zct rb2 r_1_0;have rs2 := rb2.size;have rg2 := rg1.below rb2)
   | (go_at_call 166; refine (point_any qw3.drew bm bc bn P c k HE3.out HO.out (i + 1) (iz + 1) HI1.out (by omega)).mono ?_; rintro e rw1 ⟨_, rfl, rfl, rb1⟩
      have r_1_0 := zct rb1 hq3;have rs1 : qw3.heap.size <= rw1.heap.size := rb1.size;have rg1 := hg3.below rb1;have HE4 := hid (HE3.out.below rb1)))
  have rB : Below qw3.heap.size qw3 rw3 := zbt (zbt (zbt (below_drewN qw3 1) rb1) rb2) rb3;rw [<- HP1.out, <- HP0.out];go_wp2_with fail;go_ret;exact ⟨_, rfl, congrArg Value.bool HR.out, qB.trans (rB.mono qB.size)⟩
 ·have HR : Hid (false = upAt P c i) := by
   unfold Hid; rw [HUP.out];have h1 : ¬ p0.2 < p1.2 := fun h1 => by have := (cmpQ_pos p1.2 p0.2).2 h1; rw [HY.out] at this; omega
   have h2 : ¬ p0.2 = p1.2 := fun h2 => by have := (cmpQ_zero p1.2 p0.2).2 h2.symm; rw [HY.out] at this; omega
   unfold upB; rw [decide_eq_false h1, decide_eq_false h2]; rfl
  subst h;go_wp2_with fail;go_quiet (fail);go_wp2_with fail;go_ret;exact ⟨_, rfl, congrArg Value.bool HR.out, qB.trans ((below_drewN qw3 nq).mono qB.size)⟩
theorem roundsN_succ (P : List PtQ) (c : List Int) (k : Nat) : roundsN P c (k + 1) = roundsN P c k + (if riseAt P c k then 1 else 0) := by
 unfold roundsN;rw [List.range_succ, List.filter_append, List.length_append];congr 1;cases h : riseAt P c k <;> simp [List.filter, h]
theorem roundsN_le (P : List PtQ) (c : List Int) (k : Nat) : roundsN P c k <= k := by
 unfold roundsN;exact Nat.le_trans (List.length_filter_le _ _) (by simp)
def bentTo (P : List PtQ) (c : List Int) (k : Nat) : Bool := (List.range k).all (bentAt P c)
theorem bentTo_succ (P : List PtQ) (c : List Int) (k : Nat) : bentTo P c (k + 1) = (bentTo P c k && bentAt P c k) := by
 unfold bentTo; rw [List.range_succ, List.all_append]; simp
theorem bentTo_false {P : List PtQ} {c : List Int} {k n : Nat} (hk : k < n) (h : bentAt P c k = false) : bentTo P c n = false := by
 unfold bentTo;rw [Bool.eq_false_iff];intro ha;have := List.all_eq_true.1 ha k (List.mem_range.2 hk);rw [h] at this; cases this
theorem once_any (w : World) (vp vt vc : Value) (P : List PtQ) (c : List Int) (k : Nat) (hp : RdP w vp (strP P)) (hc : RdI .i64 w vc c) (ho : OnceOK P c k) (hg : Good w) :
 Calls Tryz.prog 127 #[.agg #[vp, vt], vc] w (Ret (fun r _ => r = .bool (onceB P c)) w) := by
 have hc' := hc;obtain ⟨pc, cc, rfl, _, hcm, _⟩ := hc'.open;have hcl := ho.len;have hcp := ho.pos;have HO := hid ho;have HP := hid hp;have HC := hid hc;clear ho hp hc hc';go_enter Tryz.func127, Tryz.ntmps127;go_wp2_with fail;obtain ⟨W0, hW0⟩ : ∃ W0, W0 = (((w.alloc (.cells #[vp, vt] 35)).alloc (.cells #[.slice pc c.length cc] 46)).alloc (.cells #[.int .i64 c.length] 3)).alloc (.cells #[.func (.func 166) #[] #[.pointer (some ⟨w.heap.size, 0, none⟩), .pointer (some ⟨w.heap.size + 1, 0, none⟩), .pointer (some ⟨w.heap.size + 1 + 1, 0, none⟩)]] 219) := ⟨_, rfl⟩;have hB0 : Below w.heap.size w W0 := by rw [hW0]; exact ((((Below.refl _ _).alloc (Nat.le_refl _) _).alloc (by simp) _).alloc (by simp; omega) _).alloc (by simp; omega) _
 have hz0 : W0.heap.size = w.heap.size + 4 := by rw [hW0]; simp
 have y0 : W0.cell? ⟨w.heap.size, 0, none⟩ = some vp := by
  rw [hW0, World.cell?_alloc_past _ _ _ (by simp; omega), World.cell?_alloc_past _ _ _ (by simp; omega), World.cell?_alloc_past _ _ _ (by simp), World.cell?_alloc_at _ _ _ _ rfl]; rfl
 have y1 : W0.cell? ⟨w.heap.size + 1, 0, none⟩ = some (.slice pc c.length cc) := by
  rw [hW0, World.cell?_alloc_past _ _ _ (by simp), World.cell?_alloc_past _ _ _ (by simp), World.cell?_alloc_at _ _ _ _ (by simp)]; rfl
 have y2 : W0.cell? ⟨w.heap.size + 2, 0, none⟩ = some (.int .i64 c.length) := by
  rw [hW0, World.cell?_alloc_past _ _ _ (by simp), World.cell?_alloc_at _ _ _ _ (by simp)]; rfl
 have y3 : W0.cell? ⟨w.heap.size + 3, 0, none⟩ = some (.func (.func 166) #[] #[.pointer (some ⟨w.heap.size, 0, none⟩), .pointer (some ⟨w.heap.size + 1, 0, none⟩), .pointer (some ⟨w.heap.size + 2, 0, none⟩)]) := by
  rw [hW0, World.cell?_alloc_at _ _ _ _ (by simp)]; rfl
 have HEN : Hid (OnceEnv W0 w.heap.size (w.heap.size + 1) (w.heap.size + 2) P c) := ⟨⟨vp, y0, RdC.below HP.out hB0⟩, ⟨_, y1, RdC.below HC.out hB0⟩, y2⟩;have hg0 := hg.below hB0;rw [<- hW0];clear hW0 y0 y1 y2 HP HC;go_loopw [8, 15] (fun t8 t15 wr => ∃ m : Nat, m <= c.length /\ t15 = .int .i64 (m : Int) /\ t8 = .int .i64 (roundsN P c m : Int) /\ Hid (bentTo P c m = true) /\ Below W0.heap.size W0 wr) (fun _ t15 _ => c.length - (RowKit.intOf t15).toNat)
 case atStart => exact ⟨0, Nat.zero_le _, rfl, rfl, rfl, Below.refl _ _⟩
 case round =>
  obtain ⟨m, hm, rfl, rfl, HB, hbl⟩ := hrel;have hrl := roundsN_le P c m;have hx3 := zcq hbl (by show w.heap.size + 3 < W0.heap.size; omega) y3;have hzr := hbl.size;have hgr : Good wr := hg0.below hbl;have hgd : Good wr.drew := hgr.drewN 1;have HE1 : Hid (OnceEnv wr.drew w.heap.size (w.heap.size + 1) (w.heap.size + 2) P c) := (HEN.out.below hbl).below (below_drewN wr 1);rcases Nat.lt_or_ge m c.length with hlt | hge
  ·have s0 := HO.out.szAt m
   have s1 := HO.out.szAt (m + 1);have s2 := HO.out.szAt (m + 2);have HS0 := hid s0;have HS1 := hid s1;have HS2 := hid s2;have hkp := HO.out.kpos;have hkl := HO.out.klim;have HBE : Hid (bentAt P c m = decide (0 <= turnZ (ptAt P c m) (ptAt P c (m + 1)) (ptAt P c (m + 2)))) := rfl;have w1 : IntKind.i64.wrap ((m : Int) + 1) = (m : Int) + 1 := IntWalk.i64_in _ (by omega);have w2 : IntKind.i64.wrap ((m : Int) + 2) = (m : Int) + 2 := IntWalk.i64_in _ (by omega);have hltz : (m : Int) < (c.length : Int) := by omega
   clear s0 s1 s2 y3;go_wp2_with fail;go_region_held3 (fun w' => w'.cell? ⟨w.heap.size + 3, 0, none⟩ = some (.func (.func 166) #[] #[.pointer (some ⟨w.heap.size, 0, none⟩), .pointer (some ⟨w.heap.size + 1, 0, none⟩), .pointer (some ⟨w.heap.size + 2, 0, none⟩)]))
    (first | exact hx3 | exact q_1_0 | exact q_2_0 | exact q_3_0 | exact q_4_0)
    (first
    | (go_at_call 74; refine (turn_any (ptAt P c m) (ptAt P c (m + 1)) (ptAt P c (m + 2)) k hkp hkl HS0.out HS1.out HS2.out _ qg3).mono ?_; rintro e qw4 ⟨_, rfl, rfl, qb4⟩
       have q_4_0 := zct qb4 q_3_0;have qs4 := qb4.size;have qg4 := qg3.below qb4)
    | (go_at_call 166; refine (point_any qw2 w.heap.size (w.heap.size + 1) (w.heap.size + 2) P c k HE3.out HO.out (m + 2) ((m : Int) + 2) (by omega) (by omega)).mono ?_; rintro e qw3 ⟨_, rfl, rfl, qb3⟩
       have q_3_0 := zct qb3 q_2_0;have qs3 := qb3.size;have qg3 := qg2.below qb3;have HE4 := hid (HE3.out.below qb3))
    | (go_at_call 166; refine (point_any qw1 w.heap.size (w.heap.size + 1) (w.heap.size + 2) P c k HE2.out HO.out (m + 1) ((m : Int) + 1) (by omega) (by omega)).mono ?_; rintro e qw2 ⟨_, rfl, rfl, qb2⟩
       have q_2_0 := zct qb2 q_1_0;have qs2 := qb2.size;have qg2 := qg1.below qb2;have HE3 := hid (HE2.out.below qb2))
    | (go_at_call 166; refine (point_any wr.drew w.heap.size (w.heap.size + 1) (w.heap.size + 2) P c k HE1.out HO.out m (m : Int) rfl (by omega)).mono ?_; rintro e qw1 ⟨_, rfl, rfl, qb1⟩
       have q_1_0 := zct qb1 hx3;have qs1 : wr.heap.size <= qw1.heap.size := qb1.size;have qg1 := hgd.below qb1;have HE2 := hid (HE1.out.below qb1)))
   have qB : Below wr.heap.size wr qw4 := zbt (zbt (zbt (zbt (below_drewN wr 1) qb1) qb2) qb3) qb4;have HE5 := hid (HE4.out.below qb4);have hx5 := q_4_0;have hbl5 : Below W0.heap.size W0 qw4 := hbl.trans (qB.mono hzr);have hzr5 : wr.heap.size <= qw4.heap.size := qB.size;clear HE1 HE2 HE3 HE4 qb1 qb2 qb3 qb4 q_1_0 q_2_0 q_3_0 q_4_0 hx3 qB HS0 HS1 HS2 w2;generalize turnZ (ptAt P c m) (ptAt P c (m + 1)) (ptAt P c (m + 2)) = tz at *;by_cases htz : tz < 0
   ·have HR : Hid (false = onceB P c) := by
     unfold Hid onceB;have := bentTo_false (P := P) hlt (by rw [HBE.out]; exact decide_eq_false (by omega));unfold bentTo at this;rw [this]; rfl
    go_wp2_with fail;go_ret;exact ⟨_, rfl, congrArg Value.bool HR.out, hB0.trans (hbl5.mono (by omega))⟩
   ·have HB1 : Hid (bentTo P c (m + 1) = true) := by
     unfold Hid; rw [bentTo_succ, HB.out, HBE.out, decide_eq_true (by omega)]; rfl
    go_wp2_with fail;refine (upper_any _ (w.heap.size + 3) w.heap.size (w.heap.size + 1) (w.heap.size + 2) P c k HE5.out hx5 HO.out qg4 m (m : Int) rfl (by omega)).mono ?_;rintro e w8 ⟨_, rfl, rfl, hb8⟩;have HE8 := hid (HE5.out.below hb8);have hx8 := zcq hb8 (by show w.heap.size + 3 < qw4.heap.size; omega) hx5;have hg8 := qg4.below hb8;have hbl8 : Below W0.heap.size W0 w8 := hbl5.trans (hb8.mono (by omega));clear HE5 hx5 hb8 hbl5;cases hu : upAt P c m
    ·go_wp2_with fail
     refine (upper_any _ (w.heap.size + 3) w.heap.size (w.heap.size + 1) (w.heap.size + 2) P c k HE8.out hx8 HO.out hg8 (m + 1) ((m : Int) + 1) (by omega) (by omega)).mono ?_;rintro e w9 ⟨_, rfl, rfl, hb9⟩;have hbl9 : Below W0.heap.size W0 w9 := hbl8.trans (hb9.mono (by have := hbl8.size; omega));clear HE8 hx8 hb9;cases hv : upAt P c (m + 1)
     ·have HRR : Hid (roundsN P c (m + 1) = roundsN P c m) := by unfold Hid; rw [roundsN_succ]; unfold riseAt; rw [hu, hv]; rfl
      clear hu hv;go_wp2_with fail;go_roundw
      case rel => exact ⟨m + 1, by omega, by go_num, by rw [HRR.out], HB1, hbl9⟩
      case measure => simp [RowKit.intOf]; omega
     ·have HRR : Hid (roundsN P c (m + 1) = roundsN P c m + 1) := by unfold Hid; rw [roundsN_succ]; unfold riseAt; rw [hu, hv]; rfl
      clear hu hv;go_wp2_with fail;go_roundw
      case rel => exact ⟨m + 1, by omega, by go_num, by rw [HRR.out]; go_num, HB1, hbl9⟩
      case measure => simp [RowKit.intOf]; omega
    ·have HRR : Hid (roundsN P c (m + 1) = roundsN P c m) := by unfold Hid; rw [roundsN_succ]; unfold riseAt; rw [hu]; rfl
     clear hu;go_wp2_with fail;go_roundw
     case rel => exact ⟨m + 1, by omega, by go_num, by rw [HRR.out], HB1, hbl8⟩
     case measure => simp [RowKit.intOf]; omega
  ·obtain rfl : m = c.length := by omega
   have HR : Hid ((((roundsN P c c.length : Nat) : Int) == 1) = onceB P c) := by
    unfold Hid onceB;have := HB.out;unfold bentTo at this;rw [this, Bool.true_and];rw [Bool.eq_iff_iff]; simp; omega
   go_wp2_with fail;go_ret;exact ⟨_, rfl, congrArg Value.bool HR.out, hB0.trans (hbl.mono (by omega))⟩
end Go.Proofs.YtbfcmipplhkkeaaGreatDoor
