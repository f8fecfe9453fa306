/- Mesh: whole, Check of a right mesh. -/
import Derived.Test.YtdhcliekejiegaaGreatDoorG4
import Derived.Test.YtdhcliekejiegaaGreatDoorG2
/- The walk over mesh.whole. -/
namespace Go.Proofs.YtdhcliekejiegaaGreatDoor
open Go.RowKit Go.Lib Go.Maps

theorem chase_mem {B : List Edge} {f : Int} : ∀ (n : Nat) (a : Int) (out r : List Int), chase B f n a out = some r → (∀ x ∈ out, x ∈ B.map (·.1)) → (∀ x ∈ r, x ∈ B.map (·.1)) ∧ r.length = out.length + n := by
  intro n
  induction n with
  | zero => intro a out r h ho; unfold chase at h; cases h; exact ⟨ho, rfl⟩
  | succ n ih =>
    intro a out r h ho
    unfold chase at h
    cases hx : nxtOf B a with
    | none => rw [hx] at h; cases h
    | some b =>
      rw [hx] at h
      dsimp only at h
      split at h
      · cases h
      · have ha : a ∈ B.map (·.1) := by
          cases hm : decide (a ∈ B.map (·.1)) with
          | true => exact of_decide_eq_true hm
          | false => rw [nxtOf_none.2 (of_decide_eq_false hm)] at hx; cases hx
        obtain ⟨h1, h2⟩ := ih b (out ++ [a]) r h (fun x hx => by
          rcases List.mem_append.1 hx with h | h
          · exact ho x h
          · simp at h; subst h; exact ha)
        exact ⟨h1, by rw [h2]; simp; omega⟩

theorem outerL_mem {E : List Edge} : (∀ x ∈ outerL E, x ∈ E.map (·.1)) ∧ (outerL E).length ≤ E.length := by
  unfold outerL
  split
  · cases h : chase (bordOf E) (leastS (bordOf E)) (bordOf E).length (leastS (bordOf E)) [] with
    | none => simp
    | some r =>
      obtain ⟨h1, h2⟩ := chase_mem _ _ _ _ h (by simp)
      refine ⟨fun x hx => ?_, ?_⟩
      · obtain ⟨s, hs, rfl⟩ := List.mem_map.1 (h1 x hx)
        exact List.mem_map.2 ⟨s, (mem_bordOf.1 hs).1, rfl⟩
      · simp only [Option.getD_some, h2]
        have : (bordOf E).length ≤ E.length := List.length_filter_le _ _
        simpa using this
  · simp

theorem keysOf_length (T : List Tri) : (keysOf T).length = 3 * T.length := by
  unfold keysOf
  induction T with
  | nil => rfl
  | cons t T ih => rw [List.flatMap_cons, List.length_append, ih]; simp [sidesOf]; omega
theorem keysOf_mem {T : List Tri} {s : Edge} (h : s ∈ keysOf T) : ∃ t ∈ T, s.1 ∈ idxOf t ∧ s.2 ∈ idxOf t := by
  unfold keysOf at h
  obtain ⟨t, ht, hs⟩ := List.mem_flatMap.1 h
  refine ⟨t, ht, ?_⟩
  simp [sidesOf] at hs
  rcases hs with rfl | rfl | rfl <;> simp [idxOf]

/-- A mesh whose numbers are short and whose indices are of its points. -/
structure MeshIn (P : List PtQ) (T : List Tri) (k : Nat) : Prop where
  kpos : 0 < k
  klim : k ≤ 2000
  sz : ∀ p ∈ P, SzP k p
  plen : P.length ≤ 400
  tlen : T.length ≤ 800
  idx : ∀ t ∈ T, ∀ x ∈ idxOf t, 0 ≤ x ∧ x < P.length

theorem idx_T0 (x y z : Value) (w : World) : (Instr.index 51 (.agg #[x, y, z]) (.int .i64 0)).run Tryz.prog w = .ok x w := by kernel_rfl
theorem idx_T1 (x y z : Value) (w : World) : (Instr.index 51 (.agg #[x, y, z]) (.int .i64 1)).run Tryz.prog w = .ok y w := by kernel_rfl
theorem idx_T2 (x y z : Value) (w : World) : (Instr.index 51 (.agg #[x, y, z]) (.int .i64 2)).run Tryz.prog w = .ok z w := by kernel_rfl

/-- The indices that have come. -/
def usedL (T : List Tri) (k j : Nat) : List Int := (T.take k).flatMap idxOf ++ ((T[k]?.map idxOf).getD []).take j
theorem usedL_next (T : List Tri) (k : Nat) (h : k < T.length) : usedL T k 3 = usedL T (k + 1) 0 := by
  unfold usedL
  rw [List.getElem?_eq_getElem h, List.take_succ_eq_append_getElem h, List.flatMap_append]
  simp [idxOf]
theorem usedL_step (T : List Tri) (k j : Nat) (h : k < T.length) (hj : j < 3) : usedL T k (j + 1) = usedL T k j ++ [(idxOf T[k])[j]'(by simpa [idxOf] using hj)] := by
  unfold usedL
  rw [List.getElem?_eq_getElem h]
  simp only [Option.map_some, Option.getD_some]
  rw [List.take_succ_eq_append_getElem (by simpa [idxOf] using hj), List.append_assoc]
theorem usedL_all (T : List Tri) : usedL T T.length 0 = T.flatMap idxOf := by unfold usedL; simp

/-- The used indices in a map. -/
def UsedM (w : World) (b n : Nat) (l : List Int) : Prop := ∃ D : DataW Unit, MapL viewI 4 Lit.bool w b n D (l.map fun x => (x, true)) ∧ Maps.size D = (distL l).length

set_option maxHeartbeats 4000000 in
set_option maxRecDepth 100000 in
theorem whole_any (w : World) (vp vt : Value) (P : List PtQ) (T : List Tri) (k : Nat) (hp : RdP w vp (strP P)) (ht : RdT w vt T) (hm : MeshIn P T k) (hg : Good w) :
    Calls Tryz.prog 110 #[.agg #[vp, vt]] w (Ret (fun r _ => r = .bool (wholeB P T)) w) := by
  have hmm := @run_makeMap Tryz.prog
  have hp' := hp
  have ht' := ht
  obtain ⟨pp, cp, rfl, hpc, hpm, _⟩ := hp'.open
  obtain ⟨pt, ct, rfl, htc, htm, htr⟩ := ht'.open
  rw [strP_length] at hp hpc ⊢
  have HP := Lib.hid hp
  have HT := Lib.hid ht
  have HM := Lib.hid hm
  have HTR := Lib.hid htr
  have hpl := hm.plen
  have htl := hm.tlen
  clear hp ht hp' ht' hm htr
  have HIB : Hid (∀ t ∈ T, InI t.1 ∧ InI t.2.1 ∧ InI t.2.2) := fun t h => by
    have h1 := HM.out.idx t h
    have a1 := h1 t.1 (by simp [idxOf])
    have a2 := h1 t.2.1 (by simp [idxOf])
    have a3 := h1 t.2.2 (by simp [idxOf])
    exact ⟨⟨by omega, by omega⟩, ⟨by omega, by omega⟩, by omega, by omega⟩
  have hsr := World.alloc_heap_new w (.cells #[.slice pp P.length cp, .slice pt T.length ct] 30)
  go_enter Tryz.func110, Tryz.ntmps110
  go_wp2_with fail
  obtain ⟨W0, hW0⟩ : ∃ W0, W0 = w.alloc (.cells #[.slice pp P.length cp, .slice pt T.length ct] 30) := ⟨_, rfl⟩
  rw [← hW0] at hsr ⊢
  have hB0 : Below w.heap.size w W0 := by rw [hW0]; exact (Below.refl _ _).alloc (Nat.le_refl _) _
  have hz0 : W0.heap.size = w.heap.size + 1 := by rw [hW0]; simp
  have y0 : W0.cell? ⟨w.heap.size, 0, none⟩ = some (.slice pp P.length cp) := by simp [World.cell?, hsr]
  have y1 : W0.cell? ⟨w.heap.size, 1, none⟩ = some (.slice pt T.length ct) := by simp [World.cell?, hsr]
  clear hW0 hsr
  refine (owners_any W0 _ _ T (RdC.below HT.out hB0) (by omega) HIB.out).mono ?_
  rintro e w1 ⟨_, rfl, hO, hb1⟩
  have hBw : Below w.heap.size w w1 := hB0.trans (hb1.mono (by omega))
  have hg1 : Good w1 := hg.below hBw
  have hz1 : W0.heap.size ≤ w1.heap.size := hb1.size
  have x0 := (hb1.cell (p := ⟨w.heap.size, 0, none⟩) (by show w.heap.size < W0.heap.size; omega)).trans y0
  have x1 := (hb1.cell (p := ⟨w.heap.size, 1, none⟩) (by show w.heap.size < W0.heap.size; omega)).trans y1
  clear y0 y1 hb1 hB0
  rcases hO with ⟨hnd, bo, D, hbo, rfl, hMO⟩ | ⟨hnd, rfl⟩
  · have HND := Lib.hid hnd
    have HMO := Lib.hid hMO
    have hbl := hMO.owns.lt
    clear hnd hMO
    have x1' : (w1.alloc (.map #[] 0)).cell? ⟨w.heap.size, 1, none⟩ = some (.slice pt T.length ct) := cell_alloc_l _ x1
    have HWZ : Hid (w.heap.size < w1.heap.size) := by unfold Hid; omega
    go_wp2_with fail
    obtain ⟨W2, hW2⟩ : ∃ W2, W2 = w1.alloc (.map #[] 0) := ⟨_, rfl⟩
    have hB2 : Below w1.heap.size w1 W2 := by rw [hW2]; exact (Below.refl _ _).alloc (Nat.le_refl _) _
    have HU0 : Hid (UsedM W2 w1.heap.size 0 (usedL T 0 0)) := by
      rw [hW2]
      exact ⟨_, by simpa [usedL] using MapL.made (β := Bool) w1 viewI 4 Lit.bool, by simp [usedL, distL, Maps.size]⟩
    have hz2 : w1.heap.size + 1 ≤ W2.heap.size := by rw [hW2]; simp
    rw [← hW2]
    clear hW2 x1'
    go_loopw [23] (fun t23 wr => ∃ m : Nat, m ≤ T.length ∧ t23 = .int .i64 (m : Int) ∧ Hid (UsedM wr w1.heap.size (3 * m) (usedL T m 0)) ∧ Below w1.heap.size w1 wr ∧ w1.heap.size + 1 ≤ wr.heap.size) (fun t23 _ => T.length - (RowKit.intOf t23).toNat)
    case atStart => exact ⟨0, Nat.zero_le _, rfl, HU0, hB2, hz2⟩
    case round =>
      obtain ⟨m, hm, rfl, HU, hB, hz⟩ := hrel
      clear HU0 hB2 hz2
      rcases Nat.lt_or_ge m T.length with hlt | hge
      · obtain ⟨b, off, rfl, hbt, hcell⟩ := HTR.out (List.ne_nil_of_length_pos (by omega))
        obtain ⟨e0, e1, e2⟩ := hcell m hlt
        have hBwr : Below w.heap.size w wr := hBw.trans (hB.mono (by have := HWZ.out; omega))
        have d0 := (hBwr.cell (p := ⟨b, off + m * 3, none⟩) hbt).trans e0
        have d1 := (hBwr.cell (p := ⟨b, off + m * 3 + 1, none⟩) hbt).trans e1
        have d2 := (hBwr.cell (p := ⟨b, off + m * 3 + 2, none⟩) hbt).trans e2
        obtain ⟨t, ht⟩ : ∃ t, t = T[m] := ⟨_, rfl⟩
        rw [← ht] at d0 d1 d2
        have HTT := Lib.hid ht
        have hltz : (m : Int) < (T.length : Int) := by omega
        clear hcell e0 e1 e2 ht hBwr
        have i0 := idx_T0
        have i1 := idx_T1
        have i2 := idx_T2
        go_wp2_with fail
        obtain ⟨wo, hwo⟩ : ∃ wo : World, wo = wr := ⟨_, rfl⟩
        subst hwo
        obtain ⟨W3, hW3⟩ : ∃ W3, W3 = wo.alloc (.cells #[.int .i64 t.1, .int .i64 t.2.1, .int .i64 t.2.2] 51) := ⟨_, rfl⟩
        have HU3 : Hid (UsedM W3 w1.heap.size (3 * m + 0) (usedL T m 0)) := by
          obtain ⟨D2, h1, h2⟩ := HU.out
          rw [hW3]
          exact ⟨D2, h1.kept (World.grownBy_alloc _ _ none) (by simp), h2⟩
        have hB3 : Below w1.heap.size w1 W3 := by rw [hW3]; exact hB.alloc (by omega) _
        have hz3 : w1.heap.size + 1 ≤ W3.heap.size := by rw [hW3]; simp; omega
        rw [← hW3]
        clear hW3 HU hB hz d0 d1 d2
        go_loopw [28] (fun t28 wr => ∃ j : Nat, j ≤ 3 ∧ t28 = .int .i64 (j : Int) ∧ Hid (UsedM wr w1.heap.size (3 * m + j) (usedL T m j)) ∧ Below w1.heap.size w1 wr ∧ w1.heap.size + 1 ≤ wr.heap.size) (fun t28 _ => 3 - (RowKit.intOf t28).toNat)
        case atStart => exact ⟨0, Nat.zero_le _, rfl, HU3, hB3, hz3⟩
        case round =>
          obtain ⟨j, hj, rfl, ⟨D2, hD2, hS2⟩, hB, hz⟩ := hrel
          clear HU3 hB3 hz3
          have HD2 := Lib.hid hD2
          have HS2 := Lib.hid hS2
          clear hD2 hS2
          rcases Nat.lt_or_ge j 3 with hj3 | hj3
          · obtain ⟨x, hx⟩ : ∃ x, x = (idxOf t)[j]'(by simpa [idxOf] using hj3) := ⟨_, rfl⟩
            have hxI : InI x := by
              obtain ⟨a1, a2, a3⟩ := HIB.out t (by rw [HTT.out]; exact List.getElem_mem hlt)
              rcases (by omega : j = 0 ∨ j = 1 ∨ j = 2) with rfl | rfl | rfl <;> (subst hx; assumption)
            have HST : Hid (usedL T m (j + 1) = usedL T m j ++ [x]) := by
              unfold Hid
              rw [usedL_step T m j hlt hj3, hx]
              simp only [HTT.out]
            have HKX : Hid (keyOf Tryz.prog 3 (.int .i64 x) = some (kI x)) := keyI hxI
            have HIX : Hid ((Instr.index 51 (.agg #[.int .i64 t.1, .int .i64 t.2.1, .int .i64 t.2.2]) (.int .i64 (j : Int))).run Tryz.prog wr = .ok (.int .i64 x) wr) := by
              rcases (by omega : j = 0 ∨ j = 1 ∨ j = 2) with rfl | rfl | rfl
              · subst hx; exact idx_T0 _ _ _ _
              · subst hx; exact idx_T1 _ _ _ _
              · subst hx; exact idx_T2 _ _ _ _
            have hix := HIX.out
            have hj3z : (j : Int) < 3 := by omega
            clear hx HIX i0 i1 i2
            go_wp2_with (at_mapUpdate; refine wpList_mapUpdate_own _ rfl _ _ _ 218 rfl 3 4 lawI und_IB _ w1.heap.size (3 * m + j) D2 rfl HD2.out.owns (by unfold maxLen; omega) _ _ _ rfl rfl HKX.out _ [] (plainElem_bool und_B true) ?_; intro w2 hown2 hgrow2)
            go_roundw
            case rel =>
              refine ⟨j + 1, hj3, by go_num, ⟨D2.put (kI x) (.lit (.bool true)), ?_, ?_⟩, hB.grown hgrow2 (by omega) (fun i e => by cases e; omega), by have := hgrow2.size; omega⟩
              · have := HD2.out.put (V := viewI) (s := x) (i := true) hxI (fun i hi => by
                  simp at hi; obtain ⟨_, _, _, e⟩ := hi; rw [e]) hown2
                rw [HST.out, List.map_append]
                exact this
              · have := HD2.out.size_put (V := viewI) (s := x) hxI (.lit (.bool true)) (by rw [HS2.out, List.map_map]; simp [Function.comp_def])
                rw [HST.out]
                rw [List.map_map] at this
                show Maps.size (D2.put (viewI.lit x) (.lit (.bool true))) = _
                simpa [Function.comp_def] using this
            case measure => simp [RowKit.intOf]; omega
          · obtain rfl : j = 3 := by omega
            go_wp2_with fail
            go_roundw
            case rel => exact ⟨m + 1, by omega, by go_num, ⟨D2, by rw [← usedL_next T m hlt]; exact HD2.out, by rw [← usedL_next T m hlt]; exact HS2.out⟩, hB, hz⟩
            case measure => simp [RowKit.intOf]; omega
      · obtain rfl : m = T.length := by omega
        obtain ⟨D2, hD2, hS2⟩ := HU.out
        rw [usedL_all] at hD2 hS2
        have hlen2 := hD2.owns.len und_IB 3
        rw [hS2] at hlen2
        have HD2 := Lib.hid hD2
        have hMr : MapL viewE 3 (Lit.int .i64) wr bo (3 * T.length) D (ownL T) := HMO.out.below hB hbl
        have hgw : Good wr := hg1.below hB
        have x0r := (hB.cell (p := ⟨w.heap.size, 0, none⟩) (by show w.heap.size < w1.heap.size; have := HWZ.out; omega)).trans x0
        have x1r := (hB.cell (p := ⟨w.heap.size, 1, none⟩) (by show w.heap.size < w1.heap.size; have := HWZ.out; omega)).trans x1
        have hBr : Below w.heap.size w wr := hBw.trans (hB.mono (by have := HWZ.out; omega))
        have HMR := Lib.hid hMr
        have hun : (usedN T : Int) = ((distL (T.flatMap idxOf)).length : Int) := rfl
        obtain ⟨un, hune⟩ : ∃ un, un = (distL (T.flatMap idxOf)).length := ⟨_, rfl⟩
        rw [← hune] at hlen2
        have HUN : Hid (un = usedN T) := hune
        clear HU hD2 hS2 hMr x0 x1 hun hune
        have HEK : Hid (∀ s ∈ (ownL T).map (·.1), (0 ≤ s.1 ∧ s.1 < 1000000) ∧ (0 ≤ s.2 ∧ s.2 < 1000000)) := fun s hs => by
          rw [ownL_keys] at hs
          obtain ⟨t, ht, h1, h2⟩ := keysOf_mem hs
          have a1 := HM.out.idx t ht _ h1
          have a2 := HM.out.idx t ht _ h2
          omega
        go_wp2_with fail
        refine (outer_any wr _ _ bo (3 * T.length) D (ownL T) HMR.out (by rw [ownL_keys]; exact HND.out) (by omega) (by
          have := congrArg List.length (ownL_keys T); rw [List.length_map, keysOf_length] at this; omega) HEK.out).mono ?_
        rintro e w5 ⟨_, rfl, ⟨sv, rfl, hrs, _⟩, hb5⟩
        rw [ownL_keys] at hrs ⊢
        have hrs' := hrs
        obtain ⟨ps, cs, rfl, _, _, _⟩ := hrs'.open
        clear hrs'
        have x0s := (hb5.cell (p := ⟨w.heap.size, 0, none⟩) (World.block_lt_of_cell? wr _ x0r)).trans x0r
        have x1s := (hb5.cell (p := ⟨w.heap.size, 1, none⟩) (World.block_lt_of_cell? wr _ x1r)).trans x1r
        have hgs : Good w5 := hgw.below hb5
        have hB5 : Below w.heap.size w w5 := hBr.trans (hb5.mono hBr.size)
        have hD5 : MapL viewI 4 Lit.bool w5 w1.heap.size (3 * T.length) D2 _ := HD2.out.below hb5 HD2.out.owns.lt
        have hlen5 := hD5.owns.len und_IB 3
        have e5 : Maps.size D2 = un := by
          have h := hlen2.symm.trans (HD2.out.owns.len und_IB 3)
          simp at h
          exact (Int.ofNat_inj.1 h).symm
        rw [e5] at hlen5
        have HRS := Lib.hid hrs
        clear hlen2 x0r x1r hb5 hD5 e5 hrs hB HD2 HMR
        cases hemp : (outerL (keysOf T)).isEmpty
        · rcases (by omega : un = P.length ∨ ¬ un = P.length) with hu | hu
          · have huz : ((un : Int) == (P.length : Int)) = true := by rw [beq_iff_eq]; omega
            have HHO : Hid (OnceOK P (outerL (keysOf T)) k) := by
              obtain ⟨m1, m2⟩ := outerL_mem (E := keysOf T)
              rw [keysOf_length] at m2
              refine ⟨?_, by omega, by omega, fun x hx => ?_, HM.out.kpos, HM.out.klim, HM.out.sz⟩
              · refine List.length_pos_iff.2 fun e => ?_
                rw [e] at hemp; cases hemp
              · obtain ⟨s, hs, rfl⟩ := List.mem_map.1 (m1 x hx)
                obtain ⟨t, ht, h1, _⟩ := keysOf_mem hs
                exact HM.out.idx t ht _ h1
            have HR : Hid (onceB P (outerL (keysOf T)) = wholeB P T) := by
              unfold Hid wholeB
              rw [decide_eq_true HND.out, hemp, decide_eq_true (by rw [← HUN.out]; exact hu)]; rfl
            have HEMP := Lib.hid hemp
            clear hemp
            go_wp2_with fail
            refine (once_any w5 _ _ _ P (outerL (keysOf T)) k (RdC.below HP.out hB5) HRS.out HHO.out hgs).mono ?_
            rintro e w6 ⟨_, rfl, rfl, hb6⟩
            rw [HR.out]
            go_wp2_with fail
            go_ret
            exact ⟨_, rfl, rfl, hB5.trans (hb6.mono hB5.size)⟩
          · have huz : ((un : Int) == (P.length : Int)) = false := by rw [beq_eq_false_iff_ne]; omega
            have HR : Hid (false = wholeB P T) := by
              unfold Hid wholeB
              rw [decide_eq_false (p := usedN T = P.length) (by rw [← HUN.out]; exact hu)]; simp
            have HEMP := Lib.hid hemp
            clear hemp
            go_wp2_with fail
            go_ret
            exact ⟨_, rfl, congrArg Value.bool HR.out, hB5⟩
        · have HR : Hid (false = wholeB P T) := by unfold Hid wholeB; rw [hemp]; simp
          clear hemp
          go_wp2_with fail
          go_ret
          exact ⟨_, rfl, congrArg Value.bool HR.out, hB5⟩
  · have HR : Hid (false = wholeB P T) := by unfold Hid wholeB; rw [decide_eq_false hnd]; rfl
    clear hnd
    go_wp2_with fail
    go_ret
    exact ⟨_, rfl, congrArg Value.bool HR.out, hBw⟩

end Go.Proofs.YtdhcliekejiegaaGreatDoor

/- The walk over mesh.Check, of a right mesh. -/
namespace Go.Proofs.YtdhcliekejiegaaGreatDoor
open Go.RowKit Go.Lib Go.Maps

/-- A right mesh. -/
structure MeshOK (P : List PtQ) (T : List Tri) (k : Nat) : Prop extends MeshIn P T k where
  klim2 : k ≤ 200
  some : T ≠ []
  apart : P.Nodup
  turns : ∀ t ∈ T, 0 < turnZ (P[t.1.toNat]?.getD (0, 0)) (P[t.2.1.toNat]?.getD (0, 0)) (P[t.2.2.toNat]?.getD (0, 0))
  whole : wholeB P T = true

theorem SzP.right {k : Nat} {p : PtQ} (h : SzP k p) (hk : k ≤ 200) : errNum (allQ [RS p.1, RS p.2]) = 0 := by
  unfold allQ
  simp only [List.all_cons, List.all_nil, Bool.and_true]
  rw [RS_list, RS_list, rightQ_RL (h.1.mono hk), rightQ_RL (h.2.mono hk)]
  rfl

theorem SzP.inS {k : Nat} {p : PtQ} (h : SzP k p) (hk : 0 < k) (hk2 : k ≤ 200) : InS (RS p.1, RS p.2) := by
  have h1 := h.1.size hk
  have h2 := h.2.size hk
  constructor
  · show (RS p.1).size ≤ maxLen
    unfold maxLen; omega
  · show (RS p.2).size ≤ maxLen
    unfold maxLen; omega

theorem strP_get (P : List PtQ) (i : Nat) (h : i < P.length) : (strP P)[i]'(by rw [strP_length]; exact h) = (RS P[i].1, RS P[i].2) := by simp [strP]

theorem strP_inj {p q : PtQ} (h : (RS p.1, RS p.2) = (RS q.1, RS q.2)) : p = q := by
  simp at h
  exact Prod.ext (RS_inj h.1) (RS_inj h.2)

set_option maxHeartbeats 4000000 in
set_option maxRecDepth 100000 in
theorem check_any (w : World) (vp vt : Value) (P : List PtQ) (T : List Tri) (k : Nat) (hp : RdP w vp (strP P)) (ht : RdT w vt T) (hm : MeshOK P T k) (hg : Good w) :
    Calls Tryz.prog 47 #[.agg #[vp, vt]] w (Ret (fun r _ => r = .int .i64 0) w) := by
  have hmm := @run_makeMap Tryz.prog
  have hp' := hp
  have ht' := ht
  obtain ⟨pp, cp, rfl, hpc, hpm, hpr⟩ := hp'.open
  obtain ⟨pt, ct, rfl, htc, htm, htr⟩ := ht'.open
  rw [strP_length] at hp hpc ⊢
  have HP := Lib.hid hp
  have HT := Lib.hid ht
  have HM := Lib.hid hm
  have HPR := Lib.hid hpr
  have HTR := Lib.hid htr
  have hpl := hm.plen
  have htl := hm.tlen
  have htp : 0 < T.length := List.length_pos_iff.2 hm.some
  have t1 : ((T.length : Int) == 0) = false := by rw [beq_eq_false_iff_ne]; omega
  have t2 : decide (800 < (T.length : Int)) = false := decide_eq_false (by omega)
  have t3 : decide (400 < (P.length : Int)) = false := decide_eq_false (by omega)
  clear hp ht hp' ht' hm htr hpr
  go_enter Tryz.func47, Tryz.ntmps47
  go_wp2_with fail
  obtain ⟨W0, hW0⟩ : ∃ W0, W0 = (w.alloc (.cells #[.slice pp P.length cp, .slice pt T.length ct] 30)).alloc (.map #[] 0) := ⟨_, rfl⟩
  have hB0 : Below w.heap.size w W0 := by rw [hW0]; exact ((Below.refl _ _).alloc (Nat.le_refl _) _).alloc (by simp) _
  have hz0 : w.heap.size + 2 ≤ W0.heap.size := by rw [hW0]; simp
  have y0 : W0.cell? ⟨w.heap.size, 0, none⟩ = some (.slice pp P.length cp) := by rw [hW0]; exact cell_alloc_l _ (by rw [World.cell?_alloc_at _ _ _ _ rfl]; rfl)
  have y1 : W0.cell? ⟨w.heap.size, 1, none⟩ = some (.slice pt T.length ct) := by rw [hW0]; exact cell_alloc_l _ (by rw [World.cell?_alloc_at _ _ _ _ rfl]; rfl)
  have hm0 : MapL (β := Bool) viewP 4 Lit.bool W0 (w.heap.size + 1) 0 (.map []) [] := by
    rw [hW0]
    have := MapL.made (β := Bool) (w.alloc (.cells #[.slice pp P.length cp, .slice pt T.length ct] 30)) viewP 4 Lit.bool
    simpa using this
  rw [← hW0]
  clear hW0 t1 t2 t3
  go_loopw [32] (fun t32 wr => ∃ (m : Nat) (D : DataW Unit), m ≤ P.length ∧ t32 = .int .i64 (m : Int) ∧ Hid (MapL viewP 4 Lit.bool wr (w.heap.size + 1) m D (((strP P).take m).map fun x => (x, true))) ∧ Below w.heap.size w wr ∧ w.heap.size + 2 ≤ wr.heap.size ∧
      (wr.cell? ⟨w.heap.size, 0, none⟩ = some (.slice pp P.length cp) ∧ wr.cell? ⟨w.heap.size, 1, none⟩ = some (.slice pt T.length ct))) (fun t32 _ => P.length - (RowKit.intOf t32).toNat)
  case atStart => exact ⟨0, _, Nat.zero_le _, rfl, Lib.hid (by simpa using hm0), hB0, hz0, y0, y1⟩
  case round =>
    obtain ⟨m, D, hm, rfl, HD, hB, hz, x0, x1⟩ := hrel
    clear hm0 hB0 hz0 y0 y1
    rcases Nat.lt_or_ge m P.length with hlt | hge
    · obtain ⟨b, off, rfl, hbt, hcell⟩ := HPR.out (by intro e; have h := strP_length P; rw [e] at h; simp at h; omega)
      obtain ⟨e0, e1⟩ := hcell m (by rw [strP_length]; exact hlt)
      rw [strP_get P m hlt] at e0 e1
      obtain ⟨p, hpm⟩ : ∃ p, p = P[m] := ⟨_, rfl⟩
      rw [← hpm] at e0 e1
      dsimp only at e0 e1
      have d0 := (hB.cell (p := ⟨b, off + m * 2, none⟩) hbt).trans e0
      have d1 := (hB.cell (p := ⟨b, off + m * 2 + 1, none⟩) hbt).trans e1
      have hsp : SzP k p := by rw [hpm]; exact HM.out.sz _ (List.getElem_mem hlt)
      have hin := hsp.inS HM.out.kpos HM.out.klim2
      have HIN := Lib.hid hin
      have HKX : Hid (keyOf Tryz.prog 59 (.agg #[.string (RS p.1), .string (RS p.2)]) = some (kP (RS p.1, RS p.2))) := keyP hin.1 hin.2
      have HER := Lib.hid (hsp.right HM.out.klim2)
      have hsb1 := hsp.1.size HM.out.kpos
      have hsb2 := hsp.2.size HM.out.kpos
      have hk2 := HM.out.klim2
      have HST : Hid ((strP P).take (m + 1) = (strP P).take m ++ [(RS p.1, RS p.2)]) := by
        unfold Hid
        rw [List.take_succ_eq_append_getElem (by rw [strP_length]; exact hlt), strP_get P m hlt, hpm]
      have HNW : Hid ((RS p.1, RS p.2) ∉ (((strP P).take m).map fun x => (x, true)).map (·.1)) := fun hmm' => by
        rw [List.map_map] at hmm'
        have hmm2 : (RS p.1, RS p.2) ∈ (strP P).take m := by simpa [Function.comp_def] using hmm'
        obtain ⟨i, hi, he⟩ := List.getElem_of_mem hmm2
        rw [List.length_take, strP_length] at hi
        rw [List.getElem_take, strP_get P i (by omega)] at he
        have := strP_inj he
        rw [hpm] at this
        have := (List.getElem_inj HM.out.apart).1 this
        omega
      have hltz : (m : Int) < (P.length : Int) := by omega
      clear hcell e0 e1 hpm hin hsp
      go_wp2_with fail
      obtain ⟨W3, hW3⟩ : ∃ W3, W3 = wr.alloc (.cells #[.string (RS p.1), .string (RS p.2)] 59) := ⟨_, rfl⟩
      have hg3 : Good W3 := by rw [hW3]; exact (hg.below hB).alloc _
      have hB3 : Below wr.heap.size wr W3 := by rw [hW3]; exact (Below.refl _ _).alloc (Nat.le_refl _) _
      have hz3 : wr.heap.size < W3.heap.size := by rw [hW3]; simp
      have r0 : W3.heap[wr.heap.size]? = some (.cells #[.string (RS p.1), .string (RS p.2)] 59) := by rw [hW3]; exact World.alloc_heap_new _ _
      rw [← hW3]
      clear hW3 d0 d1
      refine (checkPoint_any (RS p.1) (RS p.2) (by omega) (by omega) W3 hg3).mono ?_
      rintro e w4 ⟨_, rfl, rfl, hb4⟩
      rw [HER.out]
      have hb5 : Below wr.heap.size wr w4 := hB3.trans (hb4.mono hB3.size)
      have r4 := (hb4.block _ hz3).trans r0
      have c0 : w4.cell? ⟨wr.heap.size, 0, none⟩ = some (.string (RS p.1)) := by simp [World.cell?, r4]
      have c1 : w4.cell? ⟨wr.heap.size, 1, none⟩ = some (.string (RS p.2)) := by simp [World.cell?, r4]
      have hM4 : MapL viewP 4 Lit.bool w4 (w.heap.size + 1) m D (((strP P).take m).map fun x => (x, true)) := HD.out.below hb5 (by omega)
      have HM4 := Lib.hid hM4
      have z0 := (hb5.cell (p := ⟨w.heap.size, 0, none⟩) (by show w.heap.size < wr.heap.size; omega)).trans x0
      have z1 := (hb5.cell (p := ⟨w.heap.size, 1, none⟩) (by show w.heap.size < wr.heap.size; omega)).trans x1
      have hB4 : Below w.heap.size w w4 := hB.trans (hb5.mono hB.size)
      have hz4 := hb5.size
      clear r0 r4 hb4 hM4 hb5 hB3 hz3 x0 x1 HD hB hg3
      go_wp2_with (first
        | (at_lookup; refine wpList_lookup_own_bool _ rfl _ _ 174 rfl 59 4 lawP und_PB und_B (zeroB _) (w.heap.size + 1) m D rfl HM4.out.owns _ _ rfl HKX.out ?_; intro cz hat
           obtain rfl : cz = false := by
             have h1 := hat.symm.trans (HM4.out.not_at (V := viewP) HIN.out HNW.out _)
             simp at h1
             exact h1
           clear hat)
        | (at_mapUpdate; refine wpList_mapUpdate_own _ rfl _ _ _ 174 rfl 59 4 lawP und_PB _ (w.heap.size + 1) m D rfl HM4.out.owns (by unfold maxLen; omega) _ _ _ rfl rfl HKX.out _ [] (plainElem_bool und_B true) ?_; intro w5 hown5 hgrow5))
      go_roundw
      case rel =>
        refine ⟨m + 1, D.put (kP (RS p.1, RS p.2)) (.lit (.bool true)), hlt, by go_num, ?_, hB4.grown hgrow5 (by omega) (fun i e => by cases e; omega), by have := hgrow5.size; omega, ?_, ?_⟩
        · have := HM4.out.put (V := viewP) (s := (RS p.1, RS p.2)) (i := true) HIN.out (fun i hi => absurd (List.mem_map.2 ⟨_, hi, rfl⟩) HNW.out) hown5
          unfold Hid
          rw [HST.out, List.map_append]
          exact this
        · exact (World.cell?_of_block (a := ⟨w.heap.size, 0, none⟩) (hgrow5.block _ (by show w.heap.size < w4.heap.size; omega) (by simp))).trans z0
        · exact (World.cell?_of_block (a := ⟨w.heap.size, 1, none⟩) (hgrow5.block _ (by show w.heap.size < w4.heap.size; omega) (by simp))).trans z1
      case measure => simp [RowKit.intOf]; omega
    · obtain rfl : m = P.length := by omega
      have hgw := hg.below hB
      have HB := Lib.hid hB
      clear hm HD hge hB
      go_wp2_with fail
      obtain ⟨wo, hwo⟩ : ∃ wo : World, wo = wr := ⟨_, rfl⟩
      subst hwo
      go_loopw [48] (fun t48 wr => ∃ m : Nat, m ≤ T.length ∧ t48 = .int .i64 (m : Int) ∧ Below wo.heap.size wo wr) (fun t48 _ => T.length - (RowKit.intOf t48).toNat)
      case atStart => exact ⟨0, Nat.zero_le _, rfl, Below.refl _ _⟩
      case round =>
        obtain ⟨m, hm, rfl, hB⟩ := hrel
        have hzr := hB.size
        have z0 := (hB.cell (p := ⟨w.heap.size, 0, none⟩) (by show w.heap.size < wo.heap.size; omega)).trans x0
        have z1 := (hB.cell (p := ⟨w.heap.size, 1, none⟩) (by show w.heap.size < wo.heap.size; omega)).trans x1
        rcases Nat.lt_or_ge m T.length with hlt | hge
        · obtain ⟨b, off, rfl, hbt, hcell⟩ := HTR.out (List.ne_nil_of_length_pos (by omega))
          obtain ⟨e0, e1, e2⟩ := hcell m hlt
          have hbo : b < wo.heap.size := Nat.lt_of_lt_of_le hbt HB.out.size
          have d0 := (hB.cell (p := ⟨b, off + m * 3, none⟩) hbo).trans ((HB.out.cell (p := ⟨b, off + m * 3, none⟩) hbt).trans e0)
          have d1 := (hB.cell (p := ⟨b, off + m * 3 + 1, none⟩) hbo).trans ((HB.out.cell (p := ⟨b, off + m * 3 + 1, none⟩) hbt).trans e1)
          have d2 := (hB.cell (p := ⟨b, off + m * 3 + 2, none⟩) hbo).trans ((HB.out.cell (p := ⟨b, off + m * 3 + 2, none⟩) hbt).trans e2)
          have hidx := HM.out.idx T[m] (List.getElem_mem hlt)
          have htu := HM.out.turns T[m] (List.getElem_mem hlt)
          obtain ⟨⟨q0z, q1z, q2z⟩, hte⟩ : ∃ t, t = T[m] := ⟨_, rfl⟩
          rw [← hte] at d0 d1 d2 hidx htu
          dsimp only at d0 d1 d2 htu
          obtain ⟨a00, a01⟩ := hidx q0z (by simp [idxOf])
          obtain ⟨a10, a11⟩ := hidx q1z (by simp [idxOf])
          obtain ⟨a20, a21⟩ := hidx q2z (by simp [idxOf])
          obtain ⟨q0, rfl⟩ : ∃ q : Nat, q0z = (q : Int) := ⟨q0z.toNat, by omega⟩
          obtain ⟨q1, rfl⟩ : ∃ q : Nat, q1z = (q : Int) := ⟨q1z.toNat, by omega⟩
          obtain ⟨q2, rfl⟩ : ∃ q : Nat, q2z = (q : Int) := ⟨q2z.toNat, by omega⟩
          simp only [Int.toNat_natCast] at htu
          have g0 : q0 < P.length := by omega
          have g1 : q1 < P.length := by omega
          have g2 : q2 < P.length := by omega
          rw [List.getElem?_eq_getElem g0, List.getElem?_eq_getElem g1, List.getElem?_eq_getElem g2] at htu
          simp only [Option.getD_some] at htu
          obtain ⟨bp, op, rfl, hbp, hpc'⟩ := HPR.out (by intro e; have h := strP_length P; rw [e] at h; simp at h; omega)
          have hbpo : bp < wo.heap.size := Nat.lt_of_lt_of_le hbp HB.out.size
          have pc : ∀ i, (h : i < P.length) → wr.cell? ⟨bp, op + i * 2, none⟩ = some (.string (RS P[i].1)) ∧ wr.cell? ⟨bp, op + i * 2 + 1, none⟩ = some (.string (RS P[i].2)) := fun i h => by
            obtain ⟨h1, h2⟩ := hpc' i (by rw [strP_length]; exact h)
            rw [strP_get P i h] at h1 h2
            exact ⟨(hB.cell (p := ⟨bp, op + i * 2, none⟩) hbpo).trans ((HB.out.cell (p := ⟨bp, op + i * 2, none⟩) hbp).trans h1), (hB.cell (p := ⟨bp, op + i * 2 + 1, none⟩) hbpo).trans ((HB.out.cell (p := ⟨bp, op + i * 2 + 1, none⟩) hbp).trans h2)⟩
          obtain ⟨k00, k01⟩ := pc q0 g0
          obtain ⟨k10, k11⟩ := pc q1 g1
          obtain ⟨k20, k21⟩ := pc q2 g2
          have s0 := HM.out.sz _ (List.getElem_mem g0)
          have s1 := HM.out.sz _ (List.getElem_mem g1)
          have s2 := HM.out.sz _ (List.getElem_mem g2)
          generalize P[q0] = p0 at *
          generalize P[q1] = p1 at *
          generalize P[q2] = p2 at *
          have HS0 := Lib.hid s0
          have HS1 := Lib.hid s1
          have HS2 := Lib.hid s2
          have hkp := HM.out.kpos
          have hkl := HM.out.klim
          have hltz : (m : Int) < (T.length : Int) := by omega
          have f0 : (q0 : Int) < (P.length : Int) := by omega
          have f1 : (q1 : Int) < (P.length : Int) := by omega
          have f2 : (q2 : Int) < (P.length : Int) := by omega
          clear hcell e0 e1 e2 hte hidx pc hpc' s0 s1 s2 a00 a01 a10 a11 a20 a21 x0 x1
          go_wp2_with fail
          obtain ⟨W5, hW5⟩ : ∃ W5, W5 = wr.alloc (.cells #[.int .i64 q0, .int .i64 q1, .int .i64 q2] 51) := ⟨_, rfl⟩
          have r5 : W5.heap[wr.heap.size]? = some (.cells #[.int .i64 q0, .int .i64 q1, .int .i64 q2] 51) := by rw [hW5]; exact World.alloc_heap_new _ _
          have hB5 : Below wr.heap.size wr W5 := by rw [hW5]; exact (Below.refl _ _).alloc (Nat.le_refl _) _
          rw [← hW5]
          have c50 : W5.cell? ⟨wr.heap.size, 0, none⟩ = some (.int .i64 q0) := by simp [World.cell?, r5]
          have c51 : W5.cell? ⟨wr.heap.size, 1, none⟩ = some (.int .i64 q1) := by simp [World.cell?, r5]
          have c52 : W5.cell? ⟨wr.heap.size, 2, none⟩ = some (.int .i64 q2) := by simp [World.cell?, r5]
          have v0 := (hB5.cell (p := ⟨w.heap.size, 0, none⟩) (by show w.heap.size < wr.heap.size; omega)).trans z0
          have hbpr : bp < wr.heap.size := Nat.lt_of_lt_of_le hbpo hzr
          have v00 := (hB5.cell (p := ⟨bp, op + q0 * 2, none⟩) hbpr).trans k00
          have v01 := (hB5.cell (p := ⟨bp, op + q0 * 2 + 1, none⟩) hbpr).trans k01
          have v10 := (hB5.cell (p := ⟨bp, op + q1 * 2, none⟩) hbpr).trans k10
          have v11 := (hB5.cell (p := ⟨bp, op + q1 * 2 + 1, none⟩) hbpr).trans k11
          have v20 := (hB5.cell (p := ⟨bp, op + q2 * 2, none⟩) hbpr).trans k20
          have v21 := (hB5.cell (p := ⟨bp, op + q2 * 2 + 1, none⟩) hbpr).trans k21
          have hg5 : Good W5.drew := ((hgw.below hB).below hB5).drewN 1
          have hBz : Below wo.heap.size wo W5 := hB.trans (hB5.mono hzr)
          clear hW5 r5 d0 d1 d2 k00 k01 k10 k11 k20 k21 hB5 z0 z1
          have i0 := idx_T0
          have i1 := idx_T1
          have i2 := idx_T2
          go_loop [53] (fun t53 => ∃ j : Nat, j ≤ 3 ∧ t53 = .int .i64 (j : Int)) (fun t53 => 3 - (RowKit.intOf t53).toNat)
          case atStart => exact ⟨0, Nat.zero_le _, rfl⟩
          case round =>
            obtain ⟨j, hj, rfl⟩ := hrel
            rcases (by omega : j = 0 ∨ j = 1 ∨ j = 2 ∨ j = 3) with rfl | rfl | rfl | rfl
            · go_wp2_with fail
              go_round
              case rel => exact ⟨1, by omega, rfl⟩
              case measure => simp [RowKit.intOf]
            · go_wp2_with fail
              go_round
              case rel => exact ⟨2, by omega, rfl⟩
              case measure => simp [RowKit.intOf]
            · go_wp2_with fail
              go_round
              case rel => exact ⟨3, by omega, rfl⟩
              case measure => simp [RowKit.intOf]
            · clear i0 i1 i2
              go_wp2_with fail
              go_still_tail 18, (by kernel_rfl)
              change wpList _ _ _ _ _ W5.drew
              go_wp2_with fail
              refine (turn_any p0 p1 p2 k hkp hkl HS0.out HS1.out HS2.out W5.drew hg5).mono ?_
              rintro e w7 ⟨_, rfl, rfl, hb7⟩
              have hB7 : Below wo.heap.size wo w7 := hBz.trans (((below_drewN W5 1).trans hb7).mono hBz.size)
              generalize turnZ p0 p1 p2 = tz at *
              have htz : ¬ tz ≤ 0 := by omega
              clear hb7 v0 v00 v01 v10 v11 v20 v21 c50 c51 c52
              go_wp2_with fail
              go_roundw
              case rel => exact ⟨m + 1, by omega, by go_num, hB7⟩
              case measure => simp [RowKit.intOf]; omega
        · obtain rfl : m = T.length := by omega
          clear x0 x1
          go_wp2_with fail
          refine (whole_any _ _ _ P T k (RdC.below (RdC.below HP.out HB.out) hB) (RdC.below (RdC.below HT.out HB.out) hB) HM.out.toMeshIn (hgw.below hB)).mono ?_
          rintro e w6 ⟨_, rfl, rfl, hb6⟩
          rw [HM.out.whole]
          go_wp2_with fail
          go_ret
          exact ⟨_, rfl, rfl, (HB.out.trans (hB.mono HB.out.size)).trans (hb6.mono (by have := HB.out.size; omega))⟩

end Go.Proofs.YtdhcliekejiegaaGreatDoor
