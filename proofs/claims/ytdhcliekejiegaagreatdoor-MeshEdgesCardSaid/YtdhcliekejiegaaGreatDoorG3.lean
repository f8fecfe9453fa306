/- Mesh: outer. -/
import Derived.Test.YtdhcliekejiegaaGreatDoorG1
import Derived.Deep.AppendLies
/- The walk over mesh.outer. -/
namespace Go.Proofs.YtdhcliekejiegaaGreatDoor
open Go.RowKit Go.Lib Go.Maps

/-- The range's step, over a map whose keys are edges. -/
theorem wpList_next_edges {P : Program} (w : World) {ops : Array Oper} {rest : List Oper} {o : Oper} {a : Act} {Q : Exit → Act → World → Prop} (hg : o.guard = none) (it : Operand) (hop : o.op = Op.next it false)
    (k e : Nat) (K : Keyed P k) (he : P.underlying e = some (.int .i64)) (lit : Edge → Lit) (In : Edge → Prop) (hkey : ∀ s, In s → keyOf P k (.agg #[.int .i64 s.1, .int .i64 s.2]) = some (lit s))
    (b r n : Nat) (D : DataW Unit) (left : Lit → Bool) (cnt : Nat) (hit : a.eval it = .pointer (some ⟨r, 0, none⟩)) (h : w.ranges P k (plainElem P e) b r n D left cnt) (hleft : ∀ kl, left kl = true → ∃ s, In s ∧ kl = lit s)
    (hDone : cnt = 0 → (∀ kl, left kl = false) → wpList P ops Q rest (a.put o.dst (.tuple #[.bool false])) w)
    (hMore : ∀ (x y c : Int) (w' : World) (cnt' : Nat), In (x, y) → left (lit (x, y)) = true → w'.ranges P k (plainElem P e) b r n D (fun z => left z && !z.sameKey (lit (x, y))) cnt' → cnt' < cnt →
      w.grownBy w' (some r) → w'.heap.size = w.heap.size → (Instr.entry (.pointer (some ⟨r, 0, none⟩))).run P w' = .ok (.tuple #[.agg #[.int .i64 x, .int .i64 y], .int .i64 c]) w' → wpList P ops Q rest (a.put o.dst (.tuple #[.bool true, .agg #[.int .i64 x, .int .i64 y], .int .i64 c])) w') :
    wpList P ops Q (o :: rest) a w := by
  refine wpList_plain hg fun K' hK' => ?_
  unfold Oper.wp
  rcases h.next K o.type with ⟨h0, hl, hrun⟩ | ⟨key, v, kl, y, w', cnt', hkl, hlk, hv, hat, hrun, hrg, hlt, hgr, hsz, hen⟩
  · simp [execOp, hop, hit, hrun, Result.andThen]
    exact hK' _ _ (hDone h0 hl)
  · obtain ⟨s, hs, rfl⟩ := hleft kl hlk
    have := K.inj hkl (hkey s hs)
    subst this
    obtain ⟨c, rfl, rfl, hwc⟩ := plainElem_int_inv he hv
    simp [execOp, hop, hit, hrun, Result.andThen]
    exact hK' _ _ (hMore s.1 s.2 c w' cnt' hs hlk hrg hlt hgr hsz hen)

theorem decide_pos_isEmpty {α : Type} (l : List α) : decide (0 < l.length) = !l.isEmpty := by cases l <;> simp
/-- How long a slice is. -/
def sliceLen : Value → Nat
  | .slice _ n _ => n
  | _ => 0
theorem ownsRow_shape {w : World} {base e sz n : Nat} {v : Value} {xs : List Value} (h : w.ownsRow base e sz v n xs) : ∃ p c, v = .slice p n c := by
  obtain ⟨h1, h2⟩ := h
  rcases h2 with ⟨rfl, h0⟩ | ⟨g, cap, cur, rfl, _⟩
  · subst h0; exact ⟨_, _, rfl⟩
  · exact ⟨_, _, rfl⟩
theorem info_i64 : ((Tryz.prog).info? 3).map (fun i => (i.zero, i.size, i.bytes)) = some (some (.int .i64 0), 1, 8) := by kernel_rfl

/-- What outer returns. -/
def OuterP (E : List Edge) (n : Nat) (v : Value) (w' : World) : Prop := ∃ s, v = .tuple #[s, .bool (!(outerL E).isEmpty)] ∧ RdI .i64 w' s (outerL E) ∧ FreshV n s

set_option maxHeartbeats 4000000 in
set_option maxRecDepth 100000 in
theorem outer_any (w : World) (vp vt : Value) (bm n : Nat) (D : DataW Unit) (L : List (Edge × Int)) (hm : MapL viewE 3 (Lit.int .i64) w bm n D L) (hn : (L.map (·.1)).Nodup) (_hn2 : n ≤ 1000000) (hlen : L.length ≤ 1000000)
    (hE : ∀ s ∈ L.map (·.1), (0 ≤ s.1 ∧ s.1 < 1000000) ∧ (0 ≤ s.2 ∧ s.2 < 1000000)) :
    Calls Tryz.prog 58 #[.agg #[vp, vt], .map (some bm)] w (Ret (OuterP (L.map (·.1)) w.heap.size) w) := by
  obtain ⟨E, hEE⟩ : ∃ E, E = L.map (·.1) := ⟨_, rfl⟩
  rw [← hEE] at hE hn ⊢
  have HE := Lib.hid hE
  have HEE := Lib.hid hEE
  have HN := Lib.hid hn
  have HM := Lib.hid hm
  clear hE hEE hn hm
  have hmm := @run_makeMap Tryz.prog
  have hbm : bm < w.heap.size := HM.out.owns.lt
  go_enter Tryz.func58, Tryz.ntmps58
  go_wp2_with (at_range; refine wpList_range_own _ rfl _ 113 rfl 47 3 lawE und_EI _ bm n D rfl (((HM.out.owns.alloc _).alloc _)) ?_; intro w0 hrg0 hg0 hs0)
  have hr : ((w.alloc (.cells #[vp, vt] 30)).alloc (.map #[] 0)).heap.size = w.heap.size + 2 := by simp
  rw [hr] at hrg0 hs0 ⊢
  clear hr
  go_frame
  have hB0 : Below w.heap.size w w0 := (((Below.refl _ _).alloc (Nat.le_refl _) _).alloc (by simp) _).grown hg0 (by simp; omega) (fun j e => by cases e)
  have hz0 : w.heap.size + 3 ≤ w0.heap.size := by omega
  have hm2 : MapL (β := Int) viewI 3 (Lit.int .i64) w0 (w.heap.size + 1) 0 (.map []) [] := by
    have := (MapL.made (β := Int) (w.alloc (.cells #[vp, vt] 30)) viewI 3 (Lit.int .i64)).kept hg0 (by simp)
    simpa using this
  have HL0 : Hid (∀ kl, Maps.has D kl = true → ∃ s, (InE s ∧ s ∈ E) ∧ kl = kE s) := fun kl hk => by
    obtain ⟨s, hs, rfl⟩ := HM.out.2.2.2 kl hk
    exact ⟨s, ⟨hs, by rw [HEE.out]; exact (HM.out.has_iff hs).1 hk⟩, rfl⟩
  have HI0 : Hid (OutInv E (fun s => Maps.has D (kE s)) (-1) []) := OutInv.start _ _ fun s hs => (HM.out.has_iff (V := viewE) (by have := HE.out s hs; exact ⟨⟨by omega, by omega⟩, ⟨by omega, by omega⟩⟩)).2 (by rw [← HEE.out]; exact hs)
  clear hg0 hs0
  have HLEN : Hid (∀ (left : Edge → Bool) (f : Int) (L2 : List Edge), OutInv E left f L2 → L2.length ≤ 1000000) := fun left f L2 h => by
    have h3 := h.length HN.out
    have h4 : E.length = L.length := by rw [HEE.out]; simp
    omega
  go_loopw [7] (fun t7 wr => ∃ (left : Lit → Bool) (cnt : Nat) (f : Int) (D2 : DataW Unit) (L2 : List Edge), t7 = .int .i64 f ∧ Hid (OutInv E (fun s => left (kE s)) f L2) ∧ Hid (∀ kl, left kl = true → ∃ s, (InE s ∧ s ∈ E) ∧ kl = kE s) ∧
      Hid (wr.ranges Tryz.prog 47 (plainElem Tryz.prog 3) bm (w.heap.size + 2) n D left cnt) ∧ Hid (MapL viewI 3 (Lit.int .i64) wr (w.heap.size + 1) L2.length D2 L2) ∧ Hid (Maps.size D2 = L2.length) ∧ (-1 ≤ f ∧ f < 1000000) ∧ Below w.heap.size w wr ∧ w.heap.size + 3 ≤ wr.heap.size) (fun _ wr => wr.rangeLeft bm (w.heap.size + 2))
  case atStart => exact ⟨_, _, -1, _, [], rfl, HI0, HL0, Lib.hid hrg0, Lib.hid hm2, rfl, ⟨by omega, by omega⟩, hB0, hz0⟩
  case round =>
    obtain ⟨left, cnt, f, D2, L2, rfl, HI, HL, HR, HM2, HSZ2, ⟨hf1, hf2⟩, hB, hz⟩ := hrel
    clear hrg0 hm2 HL0 HI0 hB0 hz0
    go_wp2_with (at_next; refine wpList_next_edges _ rfl _ rfl 47 3 lawE und_I kE (fun s => InE s ∧ s ∈ E) (fun s hs => keyE hs.1.1 hs.1.2) bm (w.heap.size + 2) n D left cnt rfl HR.out HL.out ?_ ?_)
    · intro _ hl0
      have HF : Hid (outerL E = (chase L2 f L2.length f []).getD []) := outerL_of HN.out (fun s hs => (HE.out s hs).1.1) HI.out (fun s _ => hl0 _)
      have HND : Hid ((L2.map (·.1)).Nodup) := HI.out.2.1
      have HLB : Hid (∀ s ∈ L2, (0 ≤ s.1 ∧ s.1 < 1000000) ∧ (0 ≤ s.2 ∧ s.2 < 1000000)) := fun s hs => HE.out s (mem_bordOf.1 ((HI.out.1 s).1 hs).1).1
      have hl2 := HLEN.out _ _ _ HI.out
      clear hl0 HR HL HI HLEN
      go_wp2_with fail
      obtain ⟨i0, hi, hzz0, hzz1, hzz2⟩ := info_parts info_i64
      obtain ⟨wo, hwo⟩ : ∃ wo : World, wo = wr := ⟨_, rfl⟩
      subst hwo
      obtain ⟨N, hN⟩ : ∃ N, N = L2.length := ⟨_, rfl⟩
      have HNN := Lib.hid hN
      have HSZ : Hid (Maps.size D2 = N) := by
        unfold Hid
        rw [hN]
        exact HSZ2.out
      rw [← hN] at hl2 HM2
      clear hN
      go_loopw [13, 14] (fun t13 t14 wr => ∃ (out : List Int) (a : Int), t14 = .int .i64 a ∧ wr.ownsRow (w.heap.size + 3) 3 1 t13 out.length (out.map (Value.int .i64)) ∧ out.length ≤ N ∧ Hid (chase L2 f (N - out.length) a out = chase L2 f N f []) ∧ (-1 ≤ a ∧ a < 1000000) ∧
        Hid (MapL viewI 3 (Lit.int .i64) wr (w.heap.size + 1) N D2 L2) ∧ Below w.heap.size w wr ∧ w.heap.size + 3 ≤ wr.heap.size) (fun t13 _ _ => N - sliceLen t13)
      case atStart => exact ⟨[], f, rfl, World.ownsRow_nil _ _ _ _, Nat.zero_le _, rfl, ⟨hf1, hf2⟩, HM2, hB, hz⟩
      case round =>
        obtain ⟨out, a, rfl, hown, hol, HC, ⟨ha1, ha2⟩, HM3, hB3, hz3⟩ := hrel
        clear HM2 hB hz
        obtain ⟨p13, c13, rfl⟩ := ownsRow_shape hown
        have hlen2 := (HM3.out.owns.len und_II 3)
        rw [HSZ.out] at hlen2
        rcases Nat.lt_or_ge out.length N with hlt | hge
        · have haI : InI a := ⟨by omega, by omega⟩
          have HKA : Hid (keyOf Tryz.prog 3 (.int .i64 a) = some (kI a)) := keyI haI
          have HMM := Lib.hid (HM3.out.has_iff (V := viewI) (s := a) haI)
          obtain ⟨m, hm⟩ : ∃ m, N - out.length = m + 1 := ⟨N - out.length - 1, by omega⟩
          have HMS := Lib.hid hm
          clear hm
          cases hin : Maps.has D2 (viewI.lit a)
          · have HX : Hid (outerL E = []) := by
              unfold Hid
              rw [HF.out, ← HNN.out, ← HC.out, HMS.out]
              unfold chase
              rw [nxtOf_none.2 (fun h => by have := HMM.out.2 h; rw [hin] at this; cases this)]
              rfl
            have HIN := Lib.hid hin
            clear hin
            go_wp2_with (at_lookup; refine wpList_lookup_own_ok_int _ rfl _ _ 182 rfl 3 3 .i64 lawI und_II und_I (zeroI _) (w.heap.size + 1) N D2 rfl HM3.out.owns _ _ rfl HKA.out ?_; rw [show Maps.has D2 (kI a) = false from HIN.out]; intro cz2 hat hwc; clear hat hwc)
            go_ret2
            exact ⟨_, rfl, ⟨_, by rw [HX.out]; rfl, by rw [HX.out]; exact RdC.nil0 _ _, fun a l c e => by cases e⟩, hB3⟩
          · obtain ⟨⟨a', b⟩, hab, rfl⟩ := List.mem_map.1 (HMM.out.1 hin)
            have HAB := Lib.hid hab
            have HIN := Lib.hid hin
            dsimp only at *
            have hbb := (HLB.out _ hab).2
            dsimp only at hbb
            obtain ⟨hb1, hb2⟩ := hbb
            have HCH : Hid (chase L2 f (N - out.length) a' out = if a' = f ∧ out ≠ [] then none else chase L2 f m b (out ++ [a'])) := by
              unfold Hid
              rw [HMS.out]
              conv => lhs; unfold chase
              rw [(nxtOf_mem HND.out).2 hab]
            clear hab hin
            have htests : ((a' == f) = true ∧ 0 < out.length) ∨ ((a' == f) = true ∧ ¬ 0 < out.length) ∨ ((a' == f) = false) := by
              by_cases e : a' = f
              · rcases Nat.eq_zero_or_pos out.length with h0 | h0
                · exact .inr (.inl ⟨by simpa using e, by omega⟩)
                · exact .inl ⟨by simpa using e, h0⟩
              · exact .inr (.inr (by simpa using e))
            rcases htests with ⟨t1, t2⟩ | htests
            · have HX : Hid (outerL E = []) := by
                unfold Hid
                rw [HF.out, ← HNN.out, ← HC.out, HCH.out, if_pos ⟨by simpa using t1, List.ne_nil_of_length_pos t2⟩]
                rfl
              go_wp2_with (at_lookup; refine wpList_lookup_own_ok_int _ rfl _ _ 182 rfl 3 3 .i64 lawI und_II und_I (zeroI _) (w.heap.size + 1) N D2 rfl HM3.out.owns _ _ rfl HKA.out ?_; rw [show Maps.has D2 (kI a') = true from HIN.out]; intro cz2 hat hwc; clear hat hwc)
              go_ret2
              exact ⟨_, rfl, ⟨_, by rw [HX.out]; rfl, by rw [HX.out]; exact RdC.nil0 _ _, fun a l c e => by cases e⟩, hB3⟩
            · have HNX : Hid (chase L2 f (N - (out ++ [a']).length) b (out ++ [a']) = chase L2 f N f []) := by
                unfold Hid
                rw [← HC.out, HCH.out, if_neg, List.length_append]
                · congr 1
                  have := HMS.out
                  simp only [List.length_singleton]
                  omega
                · rintro ⟨e1, e2⟩
                  rcases htests with ⟨_, t⟩ | t
                  · exact t (List.length_pos_iff.2 e2)
                  · rw [e1] at t; simp at t
              rcases htests with ⟨t1, t2⟩ | t1
              all_goals
                have tok1 : True := trivial
                go_wp2_with (first
                  | (at_lookup; have _t := tok1; refine wpList_lookup_own_ok_int _ rfl _ _ 182 rfl 3 3 .i64 lawI und_II und_I (zeroI _) (w.heap.size + 1) N D2 rfl HM3.out.owns _ _ rfl HKA.out ?_; rw [show Maps.has D2 (kI a') = true from HIN.out]; intro cz2 hat hwc; clear hat hwc tok1)
                  | (at_builtin; refine wpList_append_own _ rfl _ _ 42 rfl (w.heap.size + 3) 3 i0 (.int .i64 0) 1 8 Tryz.underlying42 hi hzz0 hzz1 hzz2 rfl (by decide) _ _ _ rfl (hown.alloc _) ⟨wr.heap.size, 0, none⟩ 1 1 [.int .i64 a'] rfl rfl (cell_one_i64 _ _ _) (one_cell_i64 _) (by unfold maxLen; omega) (by omega) (by simp; omega) ?_
                     intro v2 w2 hown2 hgrow2 _
                     have hzw2 := hgrow2.size
                     have HM4 : Hid (MapL viewI 3 (Lit.int .i64) w2 (w.heap.size + 1) N D2 L2) := (HM3.out.kept (World.grownBy_alloc _ _ none) (by simp)).kept hgrow2 (fun e => by have := (hown.lt _ e.symm).1; omega)
                     have hB4 : Below w.heap.size w w2 := (hB3.alloc (by omega) _).grown hgrow2 (by simp; omega) (fun k hk => by have := (hown.lt k hk).1; omega)
                     clear hgrow2)
                  | (at_lookup; refine wpList_lookup_own_int _ rfl _ _ 182 rfl 3 3 .i64 lawI und_II und_I (zeroI _) (w.heap.size + 1) N D2 rfl HM4.out.owns _ _ rfl HKA.out ?_; intro cz3 hat3 hwc3
                     obtain rfl : cz3 = b := by
                       have h1 := hat3.symm.trans (HM4.out.at HAB.out _)
                       simp at h1
                       exact h1
                     clear hat3 hwc3))
                go_roundw
                case rel => exact ⟨out ++ [a'], cz3, rfl, by rw [List.map_append, List.length_append]; exact hown2, by rw [List.length_append, List.length_singleton]; omega, HNX, ⟨by omega, hb2⟩, HM4, hB4, by simp at hzw2; omega⟩
                case measure =>
                  obtain ⟨p2, c2, rfl⟩ := ownsRow_shape hown2
                  simp [sliceLen]
                  omega
        · have HX : Hid (outerL E = out) := by
            unfold Hid
            rw [HF.out, ← HNN.out, ← HC.out, show N - out.length = 0 by omega]
            rfl
          have hfr : FreshV (w.heap.size + 3) (.slice p13 out.length c13) := FreshV.of_owns hown
          have hrd : RdI .i64 wr (.slice p13 out.length c13) out := RdC.of_owns hown
          go_wp2_with fail
          go_ret2
          exact ⟨_, rfl, ⟨.slice p13 out.length c13, by rw [HX.out]; exact congrArg (fun b => Value.tuple #[.slice p13 out.length c13, .bool b]) (decide_pos_isEmpty out), by rw [HX.out]; exact hrd, fun a l c e => by have := hfr a l c e; omega⟩, hB3⟩
    · intro x y c w1 cnt1 hinE hin hl hrg1 hlt1 hg1 hs1 hen
      have hv := HE.out (x, y) hin
      obtain ⟨⟨hx0, hx1⟩, hy0, hy1⟩ := hv
      have hxz : InI x := ⟨by omega, by omega⟩
      have hrevIn : InE (y, x) := ⟨⟨by omega, by omega⟩, hxz⟩
      have HB1 : Hid (Below w.heap.size w w1) := hB.grown hg1 (by omega) (fun j e => by cases e; omega)
      have hz1 : w.heap.size + 3 ≤ w1.heap.size := by omega
      have HM21 : Hid (MapL viewI 3 (Lit.int .i64) w1 (w.heap.size + 1) L2.length D2 L2) := HM2.out.kept hg1 (by simp)
      have HR1 := Lib.hid hrg1
      have hl2 := HLEN.out _ _ _ HI.out
      have HMU : Hid (cnt1 < wr.rangeLeft bm (w.heap.size + 2)) := by unfold Hid; rw [HR.out.left_eq]; exact hlt1
      have HLL : Hid (∀ kl, (left kl && !kl.sameKey (kE (x, y))) = true → ∃ s, (InE s ∧ s ∈ E) ∧ kl = kE s) := fun kl h => HL.out kl (by simp at h; exact h.1)
      have HNE : Hid (∀ t ∈ E, t ≠ (x, y) → (left (kE t) && !(kE t).sameKey (kE (x, y))) = left (kE t)) := fun t ht hne => by
        have htE : InE t := by have := HE.out t ht; exact ⟨⟨by omega, by omega⟩, ⟨by omega, by omega⟩⟩
        rw [sameKey_ne (fun e => hne (kE_inj htE.1 htE.2 hinE.1 hinE.2 e))]; simp
      have HSE : Hid ((left (kE (x, y)) && !(kE (x, y)).sameKey (kE (x, y))) = false) := by unfold Hid; rw [WideAt.sameKey_self (lawE.key (keyE hinE.1 hinE.2))]; simp
      have hr1 := (HM.out.has_iff (V := viewE) hrevIn)
      rw [← HEE.out] at hr1
      have HRV := Lib.hid hr1
      have HK1 : Hid (keyOf Tryz.prog 47 (.agg #[.int .i64 y, .int .i64 x]) = some (kE (y, x))) := keyE hrevIn.1 hrevIn.2
      have HK2 : Hid (keyOf Tryz.prog 3 (.int .i64 x) = some (kI x)) := keyI hxz
      clear hg1 hs1 hrg1 hlt1 hr1 hB HR HM2
      cases hin2 : Maps.has D (viewE.lit (y, x))
      · have hnb : (y, x) ∉ E := fun h => by have := HRV.out.2 h; rw [hin2] at this; cases this
        have HNB := Lib.hid hnb
        have HIN2 := Lib.hid hin2
        clear hnb hin2
        cases hin3 : Maps.has D2 (viewI.lit x)
        · have hnew : x ∉ L2.map (·.1) := fun h => by have := (HM21.out.has_iff (V := viewI) hxz).2 h; rw [hin3] at this; cases this
          have HNW := Lib.hid hnew
          have HIN3 := Lib.hid hin3
          clear hnew hin3
          have HFF : Hid (∀ f', f' = (if f < 0 ∨ x < f then x else f) → OutInv E (fun s => left (kE s) && !(kE s).sameKey (kE (x, y))) f' (L2 ++ [(x, y)])) := fun f' hf' =>
            HI.out.outer hin HNB.out HNW.out hx0 (fun t ht => (HE.out t (mem_bordOf.1 ((HI.out.1 t).1 ht).1).1).1.1) HNE.out HSE.out hf'
          have tok1 : True := trivial
          rcases (by omega : f < 0 ∨ (¬ f < 0 ∧ x < f) ∨ (¬ f < 0 ∧ ¬ x < f)) with h7 | ⟨h7, h8⟩ | ⟨h7, h8⟩
          all_goals
            go_wp2_with (first
              | (at_lookup; have _t := tok1; refine wpList_lookup_own_ok_int _ rfl _ _ 113 rfl 47 3 .i64 lawE und_EI und_I (zeroI _) bm n D rfl (HR1.out.owns.alloc _) _ _ rfl HK1.out ?_; rw [show Maps.has D (kE (y, x)) = false from HIN2.out]; intro cz hat hwc; clear hat hwc tok1)
              | (at_lookup; refine wpList_lookup_own_ok_int _ rfl _ _ 182 rfl 3 3 .i64 lawI und_II und_I (zeroI _) (w.heap.size + 1) L2.length D2 rfl (HM21.out.owns.alloc _) _ _ rfl HK2.out ?_; rw [show Maps.has D2 (kI x) = false from HIN3.out]; intro cz2 hat hwc; clear hat hwc)
              | (at_mapUpdate; refine wpList_mapUpdate_own _ rfl _ _ _ 182 rfl 3 3 lawI und_II _ (w.heap.size + 1) L2.length D2 rfl (HM21.out.owns.alloc _) (by unfold maxLen; omega) _ _ _ rfl rfl HK2.out _ [] (plainElem_int und_I (WalkArith.wf_i64 (by omega))) ?_; intro w2 hown2 hgrow2
                 have hbk : w2.heap[w1.heap.size]? = some (.cells #[.int .i64 x, .int .i64 y] 47) := (hgrow2.block _ (by simp) (by simp; omega)).trans (World.alloc_heap_new _ _)
                 have k0 : w2.cell? ⟨w1.heap.size, 0, none⟩ = some (.int .i64 x) := by simp [World.cell?, hbk]
                 clear hbk))
            go_roundw
            case rel =>
              refine ⟨fun z => left z && !z.sameKey (kE (x, y)), cnt1, _, D2.put (kI x) (.lit (.int .i64 y)), L2 ++ [(x, y)], rfl, Lib.hid (HFF.out _ ?_), HLL, Lib.hid ((HR1.out.alloc _).kept hgrow2 (by simp; omega) (by simp)), ?_, ?_, ?_, (HB1.out.alloc (by omega) _).grown hgrow2 (by simp; omega) (fun j e => by cases e; omega), by have := hgrow2.size; simp at this; omega⟩
              · first | rw [if_pos (show f < 0 ∨ x < f by omega)] | rw [if_neg (show ¬ (f < 0 ∨ x < f) by omega)]
              · have := (HM21.out.kept (World.grownBy_alloc _ (.cells #[.int .i64 x, .int .i64 y] 47) none) (by simp)).put (i := y) (s := x) hxz (fun j hj => absurd (List.mem_map.2 ⟨_, hj, rfl⟩) HNW.out) hown2
                unfold Hid
                rw [List.length_append]
                exact this
              · unfold Hid
                rw [Maps.size_put (HM21.out.owns.tidy lawI), show Maps.has D2 (kI x) = false from HIN3.out, List.length_append, HSZ2.out]
                rfl
              · omega
            case measure =>
              rw [((HR1.out.alloc (.cells #[.int .i64 x, .int .i64 y] 47)).kept hgrow2 (by simp; omega) (by simp)).left_eq]
              exact HMU.out
        · have hold : x ∈ L2.map (·.1) := (HM21.out.has_iff (V := viewI) hxz).1 hin3
          have HTW : Hid (outerL E = []) := outerL_twice (outer_twice HI.out hin HNB.out hl hold)
          have HIN3 := Lib.hid hin3
          clear hold hin3
          have tok1 : True := trivial
          go_wp2_with (first
            | (at_lookup; have _t := tok1; refine wpList_lookup_own_ok_int _ rfl _ _ 113 rfl 47 3 .i64 lawE und_EI und_I (zeroI _) bm n D rfl (HR1.out.owns.alloc _) _ _ rfl HK1.out ?_; rw [show Maps.has D (kE (y, x)) = false from HIN2.out]; intro cz hat hwc; clear hat hwc tok1)
            | (at_lookup; refine wpList_lookup_own_ok_int _ rfl _ _ 182 rfl 3 3 .i64 lawI und_II und_I (zeroI _) (w.heap.size + 1) L2.length D2 rfl (HM21.out.owns.alloc _) _ _ rfl HK2.out ?_; rw [show Maps.has D2 (kI x) = true from HIN3.out]; intro cz2 hat hwc; clear hat hwc))
          go_ret2
          exact ⟨_, rfl, ⟨_, by rw [HTW.out]; rfl, by rw [HTW.out]; exact RdC.nil0 _ _, fun a l c e => by cases e⟩, HB1.out.alloc (by omega) _⟩
      · have hnb : (y, x) ∈ E := HRV.out.1 hin2
        have HIN2 := Lib.hid hin2
        have HFF : Hid (OutInv E (fun s => left (kE s) && !(kE s).sameKey (kE (x, y))) f L2) := HI.out.inner (s := (x, y)) hnb HNE.out
        clear hnb hin2
        go_wp2_with (at_lookup; refine wpList_lookup_own_ok_int _ rfl _ _ 113 rfl 47 3 .i64 lawE und_EI und_I (zeroI _) bm n D rfl (HR1.out.owns.alloc _) _ _ rfl HK1.out ?_; rw [show Maps.has D (kE (y, x)) = true from HIN2.out]; intro cz hat hwc; clear hat hwc)
        go_roundw
        case rel => exact ⟨fun z => left z && !z.sameKey (kE (x, y)), cnt1, f, D2, L2, rfl, HFF, HLL, Lib.hid (HR1.out.alloc _), HM21.out.kept (World.grownBy_alloc _ _ none) (by simp), HSZ2, ⟨hf1, hf2⟩, HB1.out.alloc (by omega) _, by simp; omega⟩
        case measure =>
          rw [(HR1.out.alloc (.cells #[.int .i64 x, .int .i64 y] 47)).left_eq]
          exact HMU.out

end Go.Proofs.YtdhcliekejiegaaGreatDoor
