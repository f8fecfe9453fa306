/- The walk over mesh.Check, of any mesh of right points and triangles. -/
import Derived.Test.YtjfjkiibmfgplaaGreatDoorY4
namespace Go.Proofs.YtjfjkiibmfgplaaGreatDoor
open Go.RowKit Go.Lib Go.Maps

/-- A mesh of right points and right triangles. -/
structure MeshPre (P : List PtQ) (T : List Tri) (k : Nat) : Prop extends MeshIn P T k where
  klim2 : k ≤ 200
  some : T ≠ []
  apart : P.Nodup
  turns : ∀ t ∈ T, 0 < turnZ (P[t.1.toNat]?.getD (0, 0)) (P[t.2.1.toNat]?.getD (0, 0)) (P[t.2.2.toNat]?.getD (0, 0))
def triG (T : List Tri) (i : Nat) : Tri := T[i]?.getD (0, 0, 0)
def crossT (P : List PtQ) (T : List Tri) (i k : Nat) : Bool := crossB (ptI P (triG T i).1) (ptI P (triG T i).2.1) (ptI P (triG T i).2.2) (ptI P (triG T k).1) (ptI P (triG T k).2.1) (ptI P (triG T k).2.2)
def crossAll (P : List PtQ) (T : List Tri) : Bool := (List.range T.length).any fun i => (List.range i).any fun k => crossT P T i k
theorem crossAll_of {P : List PtQ} {T : List Tri} {i k : Nat} (hi : i < T.length) (hk : k < i) (h : crossT P T i k = true) : crossAll P T = true := by
  unfold crossAll
  rw [List.any_eq_true]
  exact ⟨i, List.mem_range.2 hi, by rw [List.any_eq_true]; exact ⟨k, List.mem_range.2 hk, h⟩⟩
theorem crossAll_not {P : List PtQ} {T : List Tri} (h : ∀ i k, i < T.length → k < i → ¬ crossT P T i k = true) : ¬ crossAll P T = true := by
  unfold crossAll
  rw [List.any_eq_true]
  rintro ⟨i, hi, h2⟩
  rw [List.any_eq_true] at h2
  obtain ⟨k, hk, h3⟩ := h2
  exact h i k (List.mem_range.1 hi) (List.mem_range.1 hk) h3
def checkZ (P : List PtQ) (T : List Tri) : Int := if wholeB P T then 0 else if crossAll P T then 26 else 25
theorem MeshPre.ok {P : List PtQ} {T : List Tri} {k : Nat} (h : MeshPre P T k) (hw : wholeB P T = true) : MeshOK P T k :=
  { toMeshIn := h.toMeshIn, klim2 := h.klim2, some := h.some, apart := h.apart, turns := h.turns, whole := hw }

set_option maxHeartbeats 4000000 in
set_option maxRecDepth 100000 in
theorem check_pre (w : World) (vp vt : Value) (P : List PtQ) (T : List Tri) (k : Nat) (hk2 : k = 2) (hp : RdP w vp (strP P)) (ht : RdT w vt T) (hm : MeshPre P T k) (hg : Good w) :
    Calls Tryz.prog 40 #[.agg #[vp, vt]] w (Ret (fun r _ => r = .int .i64 (checkZ P T)) w) := by
  have HK2 := Lib.hid hk2
  clear hk2
  obtain ⟨cz, hcz⟩ : ∃ cz, cz = checkZ P T := ⟨_, rfl⟩
  rw [← hcz]
  have HCZ0 := Lib.hid hcz
  clear hcz
  have hmm := @run_makeMap Tryz.prog
  have hp' := hp
  have ht' := ht
  obtain ⟨pp, cp, rfl, hpc, hpm, hpr⟩ := hp'.open
  obtain ⟨pt, ct, rfl, htc, htm, htr⟩ := ht'.open
  rw [strP_length] at hp hpc ⊢
  have HP := Lib.hid hp
  have HT := Lib.hid ht
  have HM := Lib.hid hm
  have HPR := Lib.hid hpr
  have HTR := Lib.hid htr
  have hpl := hm.plen
  have htl := hm.tlen
  have htp : 0 < T.length := List.length_pos_iff.2 hm.some
  have t1 : ((T.length : Int) == 0) = false := by rw [beq_eq_false_iff_ne]; omega
  have t2 : decide (800 < (T.length : Int)) = false := decide_eq_false (by omega)
  have t3 : decide (400 < (P.length : Int)) = false := decide_eq_false (by omega)
  clear hp ht hp' ht' hm htr hpr
  go_enter Tryz.func40, Tryz.ntmps40
  go_wp2_with fail
  obtain ⟨W0, hW0⟩ : ∃ W0, W0 = (w.alloc (.cells #[.slice pp P.length cp, .slice pt T.length ct] 40)).alloc (.map #[] 0) := ⟨_, rfl⟩
  have hB0 : Below w.heap.size w W0 := by rw [hW0]; exact ((Below.refl _ _).alloc (Nat.le_refl _) _).alloc (by simp) _
  have hz0 : w.heap.size + 2 ≤ W0.heap.size := by rw [hW0]; simp
  have y0 : W0.cell? ⟨w.heap.size, 0, none⟩ = some (.slice pp P.length cp) := by rw [hW0]; exact cell_alloc_l _ (by rw [World.cell?_alloc_at _ _ _ _ rfl]; rfl)
  have y1 : W0.cell? ⟨w.heap.size, 1, none⟩ = some (.slice pt T.length ct) := by rw [hW0]; exact cell_alloc_l _ (by rw [World.cell?_alloc_at _ _ _ _ rfl]; rfl)
  have hm0 : MapL (β := Bool) viewP 4 Lit.bool W0 (w.heap.size + 1) 0 (.map []) [] := by
    rw [hW0]
    have := MapL.made (β := Bool) (w.alloc (.cells #[.slice pp P.length cp, .slice pt T.length ct] 40)) viewP 4 Lit.bool
    simpa using this
  rw [← hW0]
  clear hW0 t1 t2 t3
  go_loopw [32] (fun t32 wr => ∃ (m : Nat) (D : DataW Unit), m ≤ P.length ∧ t32 = .int .i64 (m : Int) ∧ Hid (MapL viewP 4 Lit.bool wr (w.heap.size + 1) m D (((strP P).take m).map fun x => (x, true))) ∧ Below w.heap.size w wr ∧ w.heap.size + 2 ≤ wr.heap.size ∧
      (wr.cell? ⟨w.heap.size, 0, none⟩ = some (.slice pp P.length cp) ∧ wr.cell? ⟨w.heap.size, 1, none⟩ = some (.slice pt T.length ct))) (fun t32 _ => P.length - (RowKit.intOf t32).toNat)
  case atStart => exact ⟨0, _, Nat.zero_le _, rfl, Lib.hid (by simpa using hm0), hB0, hz0, y0, y1⟩
  case round =>
    obtain ⟨m, D, hm, rfl, HD, hB, hz, x0, x1⟩ := hrel
    clear hm0 hB0 hz0 y0 y1
    rcases Nat.lt_or_ge m P.length with hlt | hge
    · obtain ⟨b, off, rfl, hbt, hcell⟩ := HPR.out (by intro e; have h := strP_length P; rw [e] at h; simp at h; omega)
      obtain ⟨e0, e1⟩ := hcell m (by rw [strP_length]; exact hlt)
      rw [strP_get P m hlt] at e0 e1
      obtain ⟨p, hpm⟩ : ∃ p, p = P[m] := ⟨_, rfl⟩
      rw [← hpm] at e0 e1
      dsimp only at e0 e1
      have d0 := (hB.cell (p := ⟨b, off + m * 2, none⟩) hbt).trans e0
      have d1 := (hB.cell (p := ⟨b, off + m * 2 + 1, none⟩) hbt).trans e1
      have hsp : SzP k p := by rw [hpm]; exact HM.out.sz _ (List.getElem_mem hlt)
      have hin := hsp.inS HM.out.kpos HM.out.klim2
      have HIN := Lib.hid hin
      have HKX : Hid (keyOf Tryz.prog 54 (.agg #[.string (RS p.1), .string (RS p.2)]) = some (kP (RS p.1, RS p.2))) := keyP hin.1 hin.2
      have HER := Lib.hid (hsp.right HM.out.klim2)
      have hsb1 := hsp.1.size HM.out.kpos
      have hsb2 := hsp.2.size HM.out.kpos
      have hk2 := HM.out.klim2
      have HST : Hid ((strP P).take (m + 1) = (strP P).take m ++ [(RS p.1, RS p.2)]) := by
        unfold Hid
        rw [List.take_succ_eq_append_getElem (by rw [strP_length]; exact hlt), strP_get P m hlt, hpm]
      have HNW : Hid ((RS p.1, RS p.2) ∉ (((strP P).take m).map fun x => (x, true)).map (·.1)) := fun hmm' => by
        rw [List.map_map] at hmm'
        have hmm2 : (RS p.1, RS p.2) ∈ (strP P).take m := by simpa [Function.comp_def] using hmm'
        obtain ⟨i, hi, he⟩ := List.getElem_of_mem hmm2
        rw [List.length_take, strP_length] at hi
        rw [List.getElem_take, strP_get P i (by omega)] at he
        have := strP_inj he
        rw [hpm] at this
        have := (List.getElem_inj HM.out.apart).1 this
        omega
      have hltz : (m : Int) < (P.length : Int) := by omega
      clear hcell e0 e1 hpm hin hsp
      go_wp2_with fail
      obtain ⟨W3, hW3⟩ : ∃ W3, W3 = wr.alloc (.cells #[.string (RS p.1), .string (RS p.2)] 54) := ⟨_, rfl⟩
      have hg3 : Good W3 := by rw [hW3]; exact (hg.below hB).alloc _
      have hB3 : Below wr.heap.size wr W3 := by rw [hW3]; exact (Below.refl _ _).alloc (Nat.le_refl _) _
      have hz3 : wr.heap.size < W3.heap.size := by rw [hW3]; simp
      have r0 : W3.heap[wr.heap.size]? = some (.cells #[.string (RS p.1), .string (RS p.2)] 54) := by rw [hW3]; exact World.alloc_heap_new _ _
      rw [← hW3]
      clear hW3 d0 d1
      refine (checkPoint_any (RS p.1) (RS p.2) (by omega) (by omega) W3 hg3).mono ?_
      rintro e w4 ⟨_, rfl, rfl, hb4⟩
      rw [HER.out]
      have hb5 : Below wr.heap.size wr w4 := hB3.trans (hb4.mono hB3.size)
      have r4 := (hb4.block _ hz3).trans r0
      have c0 : w4.cell? ⟨wr.heap.size, 0, none⟩ = some (.string (RS p.1)) := by simp [World.cell?, r4]
      have c1 : w4.cell? ⟨wr.heap.size, 1, none⟩ = some (.string (RS p.2)) := by simp [World.cell?, r4]
      have hM4 : MapL viewP 4 Lit.bool w4 (w.heap.size + 1) m D (((strP P).take m).map fun x => (x, true)) := HD.out.below hb5 (by omega)
      have HM4 := Lib.hid hM4
      have z0 := (hb5.cell (p := ⟨w.heap.size, 0, none⟩) (by show w.heap.size < wr.heap.size; omega)).trans x0
      have z1 := (hb5.cell (p := ⟨w.heap.size, 1, none⟩) (by show w.heap.size < wr.heap.size; omega)).trans x1
      have hB4 : Below w.heap.size w w4 := hB.trans (hb5.mono hB.size)
      have hz4 := hb5.size
      clear r0 r4 hb4 hM4 hb5 hB3 hz3 x0 x1 HD hB hg3
      go_wp2_with (first
        | (at_lookup; refine wpList_lookup_own_bool _ rfl _ _ 150 rfl 54 4 lawP und_PB und_B (zeroB _) (w.heap.size + 1) m D rfl HM4.out.owns _ _ rfl HKX.out ?_; intro cz hat
           obtain rfl : cz = false := by
             have h1 := hat.symm.trans (HM4.out.not_at (V := viewP) HIN.out HNW.out _)
             simp at h1
             exact h1
           clear hat)
        | (at_mapUpdate; refine wpList_mapUpdate_own _ rfl _ _ _ 150 rfl 54 4 lawP und_PB _ (w.heap.size + 1) m D rfl HM4.out.owns (by unfold maxLen; omega) _ _ _ rfl rfl HKX.out _ [] (plainElem_bool und_B true) ?_; intro w5 hown5 hgrow5))
      go_roundw
      case rel =>
        refine ⟨m + 1, D.put (kP (RS p.1, RS p.2)) (.lit (.bool true)), hlt, by go_num, ?_, hB4.grown hgrow5 (by omega) (fun i e => by cases e; omega), by have := hgrow5.size; omega, ?_, ?_⟩
        · have := HM4.out.put (V := viewP) (s := (RS p.1, RS p.2)) (i := true) HIN.out (fun i hi => absurd (List.mem_map.2 ⟨_, hi, rfl⟩) HNW.out) hown5
          unfold Hid
          rw [HST.out, List.map_append]
          exact this
        · exact (World.cell?_of_block (a := ⟨w.heap.size, 0, none⟩) (hgrow5.block _ (by show w.heap.size < w4.heap.size; omega) (by simp))).trans z0
        · exact (World.cell?_of_block (a := ⟨w.heap.size, 1, none⟩) (hgrow5.block _ (by show w.heap.size < w4.heap.size; omega) (by simp))).trans z1
      case measure => simp [RowKit.intOf]; omega
    · obtain rfl : m = P.length := by omega
      have hgw := hg.below hB
      have HB := Lib.hid hB
      clear hm HD hge hB
      go_wp2_with fail
      obtain ⟨wo, hwo⟩ : ∃ wo : World, wo = wr := ⟨_, rfl⟩
      subst hwo
      go_loopw [48] (fun t48 wr => ∃ m : Nat, m ≤ T.length ∧ t48 = .int .i64 (m : Int) ∧ Below wo.heap.size wo wr) (fun t48 _ => T.length - (RowKit.intOf t48).toNat)
      case atStart => exact ⟨0, Nat.zero_le _, rfl, Below.refl _ _⟩
      case round =>
        obtain ⟨m, hm, rfl, hB⟩ := hrel
        have hzr := hB.size
        have z0 := (hB.cell (p := ⟨w.heap.size, 0, none⟩) (by show w.heap.size < wo.heap.size; omega)).trans x0
        have z1 := (hB.cell (p := ⟨w.heap.size, 1, none⟩) (by show w.heap.size < wo.heap.size; omega)).trans x1
        rcases Nat.lt_or_ge m T.length with hlt | hge
        · obtain ⟨b, off, rfl, hbt, hcell⟩ := HTR.out (List.ne_nil_of_length_pos (by omega))
          obtain ⟨e0, e1, e2⟩ := hcell m hlt
          have hbo : b < wo.heap.size := Nat.lt_of_lt_of_le hbt HB.out.size
          have d0 := (hB.cell (p := ⟨b, off + m * 3, none⟩) hbo).trans ((HB.out.cell (p := ⟨b, off + m * 3, none⟩) hbt).trans e0)
          have d1 := (hB.cell (p := ⟨b, off + m * 3 + 1, none⟩) hbo).trans ((HB.out.cell (p := ⟨b, off + m * 3 + 1, none⟩) hbt).trans e1)
          have d2 := (hB.cell (p := ⟨b, off + m * 3 + 2, none⟩) hbo).trans ((HB.out.cell (p := ⟨b, off + m * 3 + 2, none⟩) hbt).trans e2)
          have hidx := HM.out.idx T[m] (List.getElem_mem hlt)
          have htu := HM.out.turns T[m] (List.getElem_mem hlt)
          obtain ⟨⟨q0z, q1z, q2z⟩, hte⟩ : ∃ t, t = T[m] := ⟨_, rfl⟩
          rw [← hte] at d0 d1 d2 hidx htu
          dsimp only at d0 d1 d2 htu
          obtain ⟨a00, a01⟩ := hidx q0z (by simp [idxOf])
          obtain ⟨a10, a11⟩ := hidx q1z (by simp [idxOf])
          obtain ⟨a20, a21⟩ := hidx q2z (by simp [idxOf])
          obtain ⟨q0, rfl⟩ : ∃ q : Nat, q0z = (q : Int) := ⟨q0z.toNat, by omega⟩
          obtain ⟨q1, rfl⟩ : ∃ q : Nat, q1z = (q : Int) := ⟨q1z.toNat, by omega⟩
          obtain ⟨q2, rfl⟩ : ∃ q : Nat, q2z = (q : Int) := ⟨q2z.toNat, by omega⟩
          simp only [Int.toNat_natCast] at htu
          have g0 : q0 < P.length := by omega
          have g1 : q1 < P.length := by omega
          have g2 : q2 < P.length := by omega
          rw [List.getElem?_eq_getElem g0, List.getElem?_eq_getElem g1, List.getElem?_eq_getElem g2] at htu
          simp only [Option.getD_some] at htu
          obtain ⟨bp, op, rfl, hbp, hpc'⟩ := HPR.out (by intro e; have h := strP_length P; rw [e] at h; simp at h; omega)
          have hbpo : bp < wo.heap.size := Nat.lt_of_lt_of_le hbp HB.out.size
          have pc : ∀ i, (h : i < P.length) → wr.cell? ⟨bp, op + i * 2, none⟩ = some (.string (RS P[i].1)) ∧ wr.cell? ⟨bp, op + i * 2 + 1, none⟩ = some (.string (RS P[i].2)) := fun i h => by
            obtain ⟨h1, h2⟩ := hpc' i (by rw [strP_length]; exact h)
            rw [strP_get P i h] at h1 h2
            exact ⟨(hB.cell (p := ⟨bp, op + i * 2, none⟩) hbpo).trans ((HB.out.cell (p := ⟨bp, op + i * 2, none⟩) hbp).trans h1), (hB.cell (p := ⟨bp, op + i * 2 + 1, none⟩) hbpo).trans ((HB.out.cell (p := ⟨bp, op + i * 2 + 1, none⟩) hbp).trans h2)⟩
          obtain ⟨k00, k01⟩ := pc q0 g0
          obtain ⟨k10, k11⟩ := pc q1 g1
          obtain ⟨k20, k21⟩ := pc q2 g2
          have s0 := HM.out.sz _ (List.getElem_mem g0)
          have s1 := HM.out.sz _ (List.getElem_mem g1)
          have s2 := HM.out.sz _ (List.getElem_mem g2)
          generalize P[q0] = p0 at *
          generalize P[q1] = p1 at *
          generalize P[q2] = p2 at *
          have HS0 := Lib.hid s0
          have HS1 := Lib.hid s1
          have HS2 := Lib.hid s2
          have hkp := HM.out.kpos
          have hkl := HM.out.klim
          have hltz : (m : Int) < (T.length : Int) := by omega
          have f0 : (q0 : Int) < (P.length : Int) := by omega
          have f1 : (q1 : Int) < (P.length : Int) := by omega
          have f2 : (q2 : Int) < (P.length : Int) := by omega
          clear hcell e0 e1 e2 hte hidx pc hpc' s0 s1 s2 a00 a01 a10 a11 a20 a21 x0 x1
          go_wp2_with fail
          obtain ⟨W5, hW5⟩ : ∃ W5, W5 = wr.alloc (.cells #[.int .i64 q0, .int .i64 q1, .int .i64 q2] 58) := ⟨_, rfl⟩
          have r5 : W5.heap[wr.heap.size]? = some (.cells #[.int .i64 q0, .int .i64 q1, .int .i64 q2] 58) := by rw [hW5]; exact World.alloc_heap_new _ _
          have hB5 : Below wr.heap.size wr W5 := by rw [hW5]; exact (Below.refl _ _).alloc (Nat.le_refl _) _
          rw [← hW5]
          have c50 : W5.cell? ⟨wr.heap.size, 0, none⟩ = some (.int .i64 q0) := by simp [World.cell?, r5]
          have c51 : W5.cell? ⟨wr.heap.size, 1, none⟩ = some (.int .i64 q1) := by simp [World.cell?, r5]
          have c52 : W5.cell? ⟨wr.heap.size, 2, none⟩ = some (.int .i64 q2) := by simp [World.cell?, r5]
          have v0 := (hB5.cell (p := ⟨w.heap.size, 0, none⟩) (by show w.heap.size < wr.heap.size; omega)).trans z0
          have hbpr : bp < wr.heap.size := Nat.lt_of_lt_of_le hbpo hzr
          have v00 := (hB5.cell (p := ⟨bp, op + q0 * 2, none⟩) hbpr).trans k00
          have v01 := (hB5.cell (p := ⟨bp, op + q0 * 2 + 1, none⟩) hbpr).trans k01
          have v10 := (hB5.cell (p := ⟨bp, op + q1 * 2, none⟩) hbpr).trans k10
          have v11 := (hB5.cell (p := ⟨bp, op + q1 * 2 + 1, none⟩) hbpr).trans k11
          have v20 := (hB5.cell (p := ⟨bp, op + q2 * 2, none⟩) hbpr).trans k20
          have v21 := (hB5.cell (p := ⟨bp, op + q2 * 2 + 1, none⟩) hbpr).trans k21
          have hg5 : Good W5.drew := ((hgw.below hB).below hB5).drewN 1
          have hBz : Below wo.heap.size wo W5 := hB.trans (hB5.mono hzr)
          clear hW5 r5 d0 d1 d2 k00 k01 k10 k11 k20 k21 hB5 z0 z1
          have i0 := idx_T0
          have i1 := idx_T1
          have i2 := idx_T2
          go_loop [53] (fun t53 => ∃ j : Nat, j ≤ 3 ∧ t53 = .int .i64 (j : Int)) (fun t53 => 3 - (RowKit.intOf t53).toNat)
          case atStart => exact ⟨0, Nat.zero_le _, rfl⟩
          case round =>
            obtain ⟨j, hj, rfl⟩ := hrel
            rcases (by omega : j = 0 ∨ j = 1 ∨ j = 2 ∨ j = 3) with rfl | rfl | rfl | rfl
            · go_wp2_with fail
              go_round
              case rel => exact ⟨1, by omega, rfl⟩
              case measure => simp [RowKit.intOf]
            · go_wp2_with fail
              go_round
              case rel => exact ⟨2, by omega, rfl⟩
              case measure => simp [RowKit.intOf]
            · go_wp2_with fail
              go_round
              case rel => exact ⟨3, by omega, rfl⟩
              case measure => simp [RowKit.intOf]
            · clear i0 i1 i2
              go_wp2_with fail
              go_still_tail 18, (by kernel_rfl)
              change wpList _ _ _ _ _ W5.drew
              go_wp2_with fail
              refine (turn_any p0 p1 p2 k hkp hkl HS0.out HS1.out HS2.out W5.drew hg5).mono ?_
              rintro e w7 ⟨_, rfl, rfl, hb7⟩
              have hB7 : Below wo.heap.size wo w7 := hBz.trans (((below_drewN W5 1).trans hb7).mono hBz.size)
              generalize turnZ p0 p1 p2 = tz at *
              have htz : ¬ tz ≤ 0 := by omega
              clear hb7 v0 v00 v01 v10 v11 v20 v21 c50 c51 c52
              go_wp2_with fail
              go_roundw
              case rel => exact ⟨m + 1, by omega, by go_num, hB7⟩
              case measure => simp [RowKit.intOf]; omega
        · obtain rfl : m = T.length := by omega
          clear x0 x1
          go_wp2_with fail
          refine (whole_any _ _ _ P T k (RdC.below (RdC.below HP.out HB.out) hB) (RdC.below (RdC.below HT.out HB.out) hB) HM.out.toMeshIn (hgw.below hB)).mono ?_
          rintro e w6 ⟨_, rfl, rfl, hb6⟩
          have HCZ : Hid (cz = if wholeB P T then 0 else if crossAll P T then 26 else 25) := HCZ0.out
          have hbF : Below w.heap.size w w6 := (HB.out.trans (hB.mono HB.out.size)).trans (hb6.mono (by have := HB.out.size; omega))
          have hb06 := hB.trans (hb6.mono hB.size)
          have z1' := (hb6.cell (p := ⟨w.heap.size, 1, none⟩) (by show w.heap.size < wr.heap.size; omega)).trans z1
          have z0' := (hb6.cell (p := ⟨w.heap.size, 0, none⟩) (by show w.heap.size < wr.heap.size; omega)).trans z0
          cases hwh : wholeB P T
          · rw [hwh] at HCZ
            have HCZ2 : Hid (cz = if crossAll P T then 26 else 25) := HCZ.out
            have HX : Hid (∀ (i k : Nat) (hi : i < T.length) (hk : k < i), ∀ w', Below w.heap.size w w' → Good w' → Calls Tryz.prog 96 #[.agg #[.slice pp P.length cp, .slice pt T.length ct], .int .i64 (i : Int), .int .i64 (k : Int)] w' (Ret (fun r _ => r = .bool (crossT P T i k)) w')) := fun i k hi hk w' hb hg' => by
              have hM := HM.out.toMeshIn
              rw [HK2.out] at hM
              have := crossing_any w' (.slice pp P.length cp) (.slice pt T.length ct) P T (RdC.below HP.out hb) (RdC.below HT.out hb) hM i k hi (by omega) hg'
              unfold crossT triG
              rw [List.getElem?_eq_getElem hi, List.getElem?_eq_getElem (show k < T.length by omega)]
              exact this
            have hzw : w.heap.size < w6.heap.size := by have := hb06.size; omega
            clear hwh HCZ hB hb6 hb06 z0 z1
            go_wp2_with fail
            go_loopw [92] (fun t92 wr => ∃ i : Nat, t92 = .int .i64 i ∧ i ≤ T.length ∧ Hid (∀ a b, a < i → b < a → crossT P T a b = false) ∧ Below w6.heap.size w6 wr) (fun t92 _ => T.length - (RowKit.intOf t92).toNat)
            case atStart => exact ⟨0, rfl, Nat.zero_le _, fun a b h => absurd h (by omega), Below.refl _ _⟩
            case round =>
              obtain ⟨i, rfl, hin, HN, hbl⟩ := hrel
              rcases Nat.lt_or_ge i T.length with h | h
              · obtain ⟨wq, hwq⟩ : ∃ wq : World, wq = wr := ⟨_, rfl⟩
                subst hwq
                have hiz : (i : Int) < (T.length : Int) := by omega
                go_wp2_with fail
                go_loopw [96] (fun t96 wr => ∃ b : Nat, t96 = .int .i64 b ∧ b ≤ i ∧ Hid (∀ c, c < b → crossT P T i c = false) ∧ Below w6.heap.size w6 wr) (fun t96 _ => i - (RowKit.intOf t96).toNat)
                case atStart => exact ⟨0, rfl, Nat.zero_le _, fun c h => absurd h (by omega), hbl⟩
                case round =>
                  obtain ⟨b, rfl, hbi, HN2, hbl2⟩ := hrel
                  have hbW := hbF.trans (hbl2.mono hbF.size)
                  rcases Nat.lt_or_ge b i with h2 | h2
                  · have y0 := (hbl2.cell (p := ⟨w.heap.size, 0, none⟩) (by show w.heap.size < w6.heap.size; omega)).trans z0'
                    have y1 := (hbl2.cell (p := ⟨w.heap.size, 1, none⟩) (by show w.heap.size < w6.heap.size; omega)).trans z1'
                    have HXi := Lib.hid (HX.out i b h h2)
                    have hbz : (b : Int) < (i : Int) := by omega
                    cases hx : crossT P T i b
                    · rw [hx] at HXi
                      have HN3 : Hid (∀ c, c < b + 1 → crossT P T i c = false) := fun c hc => by
                        rcases Nat.lt_or_ge c b with h3 | h3
                        · exact HN2.out c h3
                        · obtain rfl : c = b := by omega
                          exact hx
                      clear hx
                      go_wp2_with fail
                      refine (HXi.out wr hbW (hg.below hbW)).mono ?_
                      rintro e w7 ⟨_, rfl, rfl, hb7⟩
                      have hbl3 := hbl2.trans (hb7.mono hbl2.size)
                      clear y0 y1
                      go_wp2_with fail
                      go_roundw
                      case rel => exact ⟨b + 1, by go_num, by omega, HN3, hbl3⟩
                      case measure => simp [RowKit.intOf]; omega
                    · rw [hx] at HXi
                      have HE : Hid (26 = cz) := by
                        unfold Hid
                        rw [HCZ2.out, if_pos (crossAll_of h h2 hx)]
                      clear hx
                      go_wp2_with fail
                      refine (HXi.out wr hbW (hg.below hbW)).mono ?_
                      rintro e w7 ⟨_, rfl, rfl, hb7⟩
                      have hbF7 := hbW.trans (hb7.mono hbW.size)
                      go_wp2_with fail
                      go_ret
                      exact ⟨_, rfl, congrArg (Value.int .i64) HE.out, hbF7⟩
                  · obtain rfl : b = i := by omega
                    have HN4 : Hid (∀ a c, a < b + 1 → c < a → crossT P T a c = false) := fun a c ha hc => by
                      rcases Nat.lt_or_ge a b with h3 | h3
                      · exact HN.out a c h3 hc
                      · obtain rfl : a = b := by omega
                        exact HN2.out c hc
                    go_wp2_with fail
                    go_roundw
                    case rel => exact ⟨b + 1, by go_num, h, HN4, hbl2⟩
                    case measure => simp [RowKit.intOf]; omega
              · obtain rfl : i = T.length := by omega
                have hbW := hbF.trans (hbl.mono hbF.size)
                have HE : Hid (25 = cz) := by
                  unfold Hid
                  rw [HCZ2.out, if_neg (crossAll_not fun a b ha hb => by rw [HN.out a b ha hb]; simp)]
                go_wp2_with fail
                go_ret
                exact ⟨_, rfl, congrArg (Value.int .i64) HE.out, hbW⟩
          · rw [hwh] at HCZ
            have HE : Hid (0 = cz) := HCZ.out.symm
            clear hwh HCZ
            go_wp2_with fail
            go_ret
            exact ⟨_, rfl, congrArg (Value.int .i64) HE.out, hbF⟩

end Go.Proofs.YtjfjkiibmfgplaaGreatDoor
