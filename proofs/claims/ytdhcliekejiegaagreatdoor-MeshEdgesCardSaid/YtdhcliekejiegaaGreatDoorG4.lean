/- Mesh: once. -/
import Derived.Test.YtdhcliekejiegaaGreatDoorG3
import Derived.StillTailTactics
import Derived.Laws.EntriesVeiled
/- The walks over mesh.once and its closures. -/
namespace Go.Proofs.YtdhcliekejiegaaGreatDoor
open Go.RowKit Go.Lib

/-- The texts of places. -/
def strP (P : List PtQ) : List PtS := P.map fun p => (RS p.1, RS p.2)
theorem strP_length (P : List PtQ) : (strP P).length = P.length := by simp [strP]

/-- What the closures of once read. -/
structure OnceEnv (W : World) (bm bc bn : Nat) (P : List PtQ) (c : List Int) : Prop where
  pts : ∃ vp, W.cell? ⟨bm, 0, none⟩ = some vp ∧ RdP W vp (strP P)
  cyc : ∃ vc, W.cell? ⟨bc, 0, none⟩ = some vc ∧ RdI .i64 W vc c
  num : W.cell? ⟨bn, 0, none⟩ = some (.int .i64 c.length)
theorem OnceEnv.below {W W' : World} {bm bc bn : Nat} {P : List PtQ} {c : List Int} (h : OnceEnv W bm bc bn P c) (hb : Below W.heap.size W W') : OnceEnv W' bm bc bn P c := by
  obtain ⟨⟨vp, h1, h2⟩, ⟨vc, h3, h4⟩, h5⟩ := h
  exact ⟨⟨vp, (hb.cell (p := ⟨bm, 0, none⟩) (World.block_lt_of_cell? W _ h1)).trans h1, RdC.below h2 hb⟩, ⟨vc, (hb.cell (p := ⟨bc, 0, none⟩) (World.block_lt_of_cell? W _ h3)).trans h3, RdC.below h4 hb⟩, (hb.cell (p := ⟨bn, 0, none⟩) (World.block_lt_of_cell? W _ h5)).trans h5⟩

/-- Bounds under which they are called. -/
structure OnceOK (P : List PtQ) (c : List Int) (k : Nat) : Prop where
  pos : 0 < c.length
  len : c.length ≤ 1000000
  plen : P.length ≤ 1000000
  idx : ∀ x ∈ c, 0 ≤ x ∧ x < P.length
  kpos : 0 < k
  klim : k ≤ 2000
  sz : ∀ p ∈ P, SzP k p

theorem OnceOK.at {P : List PtQ} {c : List Int} {k : Nat} (h : OnceOK P c k) (i : Nat) : ∃ (j m : Nat) (hj : j < c.length) (hm : m < P.length), i % c.length = j ∧ c[j] = (m : Int) ∧ ptAt P c i = P[m] := by
  have hj : i % c.length < c.length := Nat.mod_lt _ h.pos
  have hx := h.idx _ (List.getElem_mem hj)
  refine ⟨i % c.length, (c[i % c.length]).toNat, hj, by omega, rfl, by omega, ?_⟩
  unfold ptAt
  rw [List.getElem?_eq_getElem hj, Option.getD_some, List.getElem?_eq_getElem (by omega), Option.getD_some]

theorem OnceOK.szAt {P : List PtQ} {c : List Int} {k : Nat} (h : OnceOK P c k) (i : Nat) : SzP k (ptAt P c i) := by
  obtain ⟨j, m, hj, hm, _, _, e⟩ := h.at i
  rw [e]; exact h.sz _ (List.getElem_mem hm)

set_option maxHeartbeats 1000000 in
set_option maxRecDepth 100000 in
theorem point_any (W : World) (bm bc bn : Nat) (P : List PtQ) (c : List Int) (k : Nat) (he : OnceEnv W bm bc bn P c) (ho : OnceOK P c k) (i : Nat) (iz : Int) (hiz : iz = (i : Int)) (hi : i ≤ 4000000) :
    Calls Tryz.prog 212 #[.int .i64 iz, .pointer (some ⟨bm, 0, none⟩), .pointer (some ⟨bc, 0, none⟩), .pointer (some ⟨bn, 0, none⟩)] W (Ret (fun r _ => r = .agg #[.string (RS (ptAt P c i).1), .string (RS (ptAt P c i).2)]) W) := by
  obtain ⟨j, m, hj, hm, e1, e2, e3⟩ := ho.at i
  obtain ⟨⟨vp, c1, r1⟩, ⟨vc, c2, r2⟩, c3⟩ := he
  obtain ⟨p1, q1, rfl, a1, a2, a3⟩ := r1.open
  obtain ⟨p2, q2, rfl, b1, b2, b3⟩ := r2.open
  rw [strP_length] at a1 c1
  obtain ⟨g1, o1, rfl, hg1, hc1⟩ := a3 (by intro e; have h := strP_length P; rw [e] at h; simp at h; omega)
  obtain ⟨g2, o2, rfl, hg2, hc2⟩ := b3 (by intro e; rw [e] at hj; simp at hj)
  obtain ⟨d1, d2⟩ := hc1 m (by rw [strP_length]; exact hm)
  have d3 := hc2 j hj
  rw [e2] at d3
  rw [show (strP P)[m]'(by rw [strP_length]; exact hm) = (RS P[m].1, RS P[m].2) by simp [strP]] at d1 d2
  dsimp only at d1 d2
  rw [← show ptAt P c i = P[m] from e3] at d1 d2
  have hpl := ho.plen
  have hcl := ho.len
  have hcp := ho.pos
  obtain ⟨n, hn⟩ : ∃ n, n = c.length := ⟨_, rfl⟩
  rw [← hn] at e1 c2 c3 hcl hcp hj b1
  have hrem : iz.tmod (n : Int) = (j : Int) := by rw [hiz, ← e1]; exact (Int.ofNat_tmod i n).symm
  have hrem2 : iz % (n : Int) = (j : Int) := by rw [hiz, ← e1]; exact (Int.natCast_emod i n).symm
  have hne : n ≠ 0 := by omega
  have hne2 : ((n : Int) == 0) = false := by rw [beq_eq_false_iff_ne]; omega
  have hwr : IntKind.i64.wrap (j : Int) = (j : Int) := IntWalk.i64_in _ (by omega)
  obtain ⟨pt, hpt⟩ : ∃ pt, pt = ptAt P c i := ⟨_, rfl⟩
  rw [← hpt] at d1 d2 ⊢
  have hjn : (j : Int) < (n : Int) := by omega
  have hmn : (m : Int) < (P.length : Int) := by omega
  have hi0 : 0 ≤ iz := by omega
  have hi1 : iz ≤ 4000000 := by omega
  have hn1 : 1 ≤ (n : Int) := by omega
  clear hn hiz e1 e2 e3 hc1 hc2 a3 b3 r1 r2 ho hpt
  go_enter Tryz.func212, Tryz.ntmps212
  go_wp2_with fail
  obtain ⟨W2, hW2⟩ : ∃ W2, W2 = W.alloc (.cells #[.string ⟨#[]⟩, .string ⟨#[]⟩] 59) := ⟨_, rfl⟩
  have hb2 : Below W.heap.size W W2 := by rw [hW2]; exact (Below.refl _ _).alloc (Nat.le_refl _) _
  have r0 : W2.heap[W.heap.size]? = some (.cells #[.string ⟨#[]⟩, .string ⟨#[]⟩] 59) := by rw [hW2]; exact World.alloc_heap_new _ _
  have r1 : W2.cell? ⟨W.heap.size, 0, none⟩ = some (.string ⟨#[]⟩) := by simp [World.cell?, r0]
  have r2 : W2.cell? ⟨W.heap.size, 1, none⟩ = some (.string ⟨#[]⟩) := by simp [World.cell?, r0]
  have r3 : W2.frozen? ⟨W.heap.size, 0, none⟩ = false := by simp [World.frozen?, r0]
  have r4 : W2.frozen? ⟨W.heap.size, 1, none⟩ = false := by simp [World.frozen?, r0]
  have k1 := (hb2.cell (p := ⟨bm, 0, none⟩) (World.block_lt_of_cell? W _ c1)).trans c1
  have k2 := (hb2.cell (p := ⟨bc, 0, none⟩) (World.block_lt_of_cell? W _ c2)).trans c2
  have k3 := (hb2.cell (p := ⟨bn, 0, none⟩) (World.block_lt_of_cell? W _ c3)).trans c3
  have k4 := (hb2.cell (p := ⟨g1, o1 + m * 2, none⟩) hg1).trans d1
  have k5 := (hb2.cell (p := ⟨g1, o1 + m * 2 + 1, none⟩) hg1).trans d2
  have k6 := (hb2.cell (p := ⟨g2, o2 + j, none⟩) hg2).trans d3
  rw [← hW2]
  have HW := Lib.hid hW2
  have HR := Lib.hid r0
  clear hW2 r0 c1 c2 c3 d1 d2 d3
  have hbd : Below W.heap.size W W2.drew := hb2.trans ((below_drewN W2 1).mono hb2.size)
  go_still_tail 10, (by kernel_rfl)
  change wpList _ _ _ _ _ W2.drew
  go_wp2_with fail
  have f1 : (((W2.setCell ⟨W.heap.size, 0, none⟩ (.string (RS pt.1))).setCell ⟨W.heap.size, 1, none⟩ (.string (RS pt.2))).drew).cell? ⟨W.heap.size, 0, none⟩ = some (.string (RS pt.1)) := by
    show ((W2.setCell ⟨W.heap.size, 0, none⟩ (.string (RS pt.1))).setCell ⟨W.heap.size, 1, none⟩ (.string (RS pt.2))).cell? ⟨W.heap.size, 0, none⟩ = _
    rw [World.cell?_setCell_other _ _ _ _ (by simp)]
    exact World.cell?_setCell_same' _ _ _ (by rw [r1]; rfl)
  have f2 : (((W2.setCell ⟨W.heap.size, 0, none⟩ (.string (RS pt.1))).setCell ⟨W.heap.size, 1, none⟩ (.string (RS pt.2))).drew).cell? ⟨W.heap.size, 1, none⟩ = some (.string (RS pt.2)) := by
    show ((W2.setCell ⟨W.heap.size, 0, none⟩ (.string (RS pt.1))).setCell ⟨W.heap.size, 1, none⟩ (.string (RS pt.2))).cell? ⟨W.heap.size, 1, none⟩ = _
    exact World.cell?_setCell_same' _ _ _ (by rw [World.cell?_setCell_other _ _ _ _ (by simp), r2]; rfl)
  exact bodyPost_ret (v := .agg #[.string (RS pt.1), .string (RS pt.2)]) (by simp [results, Tryz.results212, go_sem, f1, f2]) rfl ⟨_, rfl, rfl, ((hb2.setCell (p := ⟨W.heap.size, 0, none⟩) (Nat.le_refl _) _).setCell (p := ⟨W.heap.size, 1, none⟩) (Nat.le_refl _) _).drew⟩

end Go.Proofs.YtdhcliekejiegaaGreatDoor

/- The walks over mesh.once: its second closure; itself. -/
namespace Go.Proofs.YtdhcliekejiegaaGreatDoor
open Go.RowKit Go.Lib

theorem fld_P0 (x y : Value) (w : World) : (Instr.field 59 (.agg #[x, y]) 0).run Tryz.prog w = .ok x w := by kernel_rfl
theorem fld_P1 (x y : Value) (w : World) : (Instr.field 59 (.agg #[x, y]) 1).run Tryz.prog w = .ok y w := by kernel_rfl

theorem cmpQ_pos (p q : Rat) : (0 < cmpQ p q) ↔ q < p := by
  unfold cmpQ
  split
  · rename_i h
    exact ⟨fun h1 => by omega, fun h1 => absurd h (Rat.not_lt.2 (Rat.le_of_lt h1))⟩
  · split
    · rename_i h; exact ⟨fun _ => h, fun _ => by omega⟩
    · rename_i h; exact ⟨fun h1 => by omega, fun h1 => absurd h1 h⟩
theorem cmpQ_zero (p q : Rat) : (cmpQ p q = 0) ↔ p = q := by
  unfold cmpQ
  split
  · rename_i h; exact ⟨fun h1 => by omega, fun h1 => by subst h1; exact absurd h Rat.lt_irrefl⟩
  · split
    · rename_i h; exact ⟨fun h1 => by omega, fun h1 => by subst h1; exact absurd h Rat.lt_irrefl⟩
    · rename_i h1 h2; exact ⟨fun _ => Rat.le_antisymm (Rat.not_lt.1 h2) (Rat.not_lt.1 h1), fun _ => rfl⟩
theorem cmpQ_range (p q : Rat) : -1 ≤ cmpQ p q ∧ cmpQ p q ≤ 1 := by unfold cmpQ; split; omega; split <;> omega

def upFn (bm bc bn : Nat) : Value := .func (.func 212) #[] #[.pointer (some ⟨bm, 0, none⟩), .pointer (some ⟨bc, 0, none⟩), .pointer (some ⟨bn, 0, none⟩)]

set_option maxHeartbeats 2000000 in
set_option maxRecDepth 100000 in
theorem upper_any (W : World) (bp bm bc bn : Nat) (P : List PtQ) (c : List Int) (k : Nat) (he : OnceEnv W bm bc bn P c) (hp : W.cell? ⟨bp, 0, none⟩ = some (upFn bm bc bn)) (ho : OnceOK P c k) (hg : Good W) (i : Nat) (iz : Int) (hiz : iz = (i : Int)) (hi : i ≤ 3000000) :
    Calls Tryz.prog 213 #[.int .i64 iz, .pointer (some ⟨bp, 0, none⟩)] W (Ret (fun r _ => r = .bool (upAt P c i)) W) := by
  have hbp := World.block_lt_of_cell? W _ hp
  dsimp only at hbp
  have s1 := ho.szAt (i + 1)
  have s0 := ho.szAt i
  obtain ⟨p1, hp1⟩ : ∃ p1, p1 = ptAt P c (i + 1) := ⟨_, rfl⟩
  obtain ⟨p0, hp0⟩ : ∃ p0, p0 = ptAt P c i := ⟨_, rfl⟩
  have HO := Lib.hid ho
  have HS1 := Lib.hid s1
  have HS0 := Lib.hid s0
  have HE := Lib.hid (he.below (below_drewN W 1))
  have hgd : Good W.drew := hg.drewN 1
  have hkp := ho.kpos
  have hkl := ho.klim
  have HUP : Hid (upAt P c i = upB p0 p1) := by unfold Hid; rw [hp0, hp1]; rfl
  have HP1 := Lib.hid hp1
  have HP0 := Lib.hid hp0
  have hiz1 : iz + 1 = ((i + 1 : Nat) : Int) := by omega
  have HI1 := Lib.hid hiz1
  have HI0 := Lib.hid hiz
  have hi0 : 0 ≤ iz := by omega
  have hi1 : iz ≤ 3000000 := by omega
  have w1 : IntKind.i64.wrap (iz + 1) = iz + 1 := IntWalk.i64_in _ (by omega)
  have hp' := hp
  unfold upFn at hp'
  clear ho s1 s0 he hp1 hp0 hiz hiz1 hp
  have u0 := fld_P0
  have u1 := fld_P1
  go_enter Tryz.func213, Tryz.ntmps213
  go_wp2_with fail
  go_region_held3 (fun w' => w'.cell? ⟨bp, 0, none⟩ = some (.func (.func 212) #[] #[.pointer (some ⟨bm, 0, none⟩), .pointer (some ⟨bc, 0, none⟩), .pointer (some ⟨bn, 0, none⟩)]))
    (first | exact hp' | exact q_1_0 | exact q_2_0 | exact q_3_0)
    (first
    | (go_at_call 96; refine (ratCompare_any (ptAt P c (i + 1)).2 (ptAt P c i).2 k hkp (by omega) HS1.out.2 HS0.out.2 _ qg2).mono ?_; rintro e qw3 ⟨_, rfl, rfl, qb3⟩
       have q_3_0 := (qb3.cell (p := ⟨bp, 0, none⟩) (by show bp < qw2.heap.size; omega)).trans q_2_0
       have qs3 : qw2.heap.size ≤ qw3.heap.size := qb3.size
       have qg3 : Good qw3 := qg2.below qb3)
    | (go_at_call 212; refine (point_any qw1 bm bc bn P c k HE1.out HO.out i iz HI0.out (by omega)).mono ?_; rintro e qw2 ⟨_, rfl, rfl, qb2⟩
       have q_2_0 := (qb2.cell (p := ⟨bp, 0, none⟩) (by show bp < qw1.heap.size; omega)).trans q_1_0
       have qs2 : qw1.heap.size ≤ qw2.heap.size := qb2.size
       have qg2 : Good qw2 := qg1.below qb2
       have HE2 := Lib.hid (HE1.out.below qb2))
    | (go_at_call 212; refine (point_any W.drew bm bc bn P c k HE.out HO.out (i + 1) (iz + 1) HI1.out (by omega)).mono ?_; rintro e qw1 ⟨_, rfl, rfl, qb1⟩
       have q_1_0 := (qb1.cell (p := ⟨bp, 0, none⟩) (by show bp < W.heap.size; omega)).trans hp'
       have qs1 : W.heap.size ≤ qw1.heap.size := qb1.size
       have qg1 : Good qw1 := hgd.below qb1
       have HE1 := Lib.hid (HE.out.below qb1)))
  have qB : Below W.heap.size W qw3 := ((((below_drewN W 1).trans (qb1.mono (by show W.heap.size ≤ W.heap.size; omega))).trans (qb2.mono (by show W.heap.size ≤ qw1.heap.size; omega))).trans (qb3.mono (by show W.heap.size ≤ qw2.heap.size; omega)))
  have HE3 := Lib.hid ((HE2.out.below qb3).below (below_drewN qw3 1))
  have hg3 : Good qw3.drew := qg3.drewN 1
  have hq3 := q_3_0
  clear HE HE1 HE2 qb1 qb2 qb3 q_1_0 q_2_0 q_3_0 qg1 qg2 hp'
  rw [← HP1.out, ← HP0.out]
  generalize hy : cmpQ p1.2 p0.2 = y
  have hyr := cmpQ_range p1.2 p0.2
  rw [hy] at hyr
  have HY := Lib.hid hy
  clear hy
  rcases (by omega : y = 1 ∨ y = 0 ∨ y = -1) with h | h | h
  · have HR : Hid (true = upAt P c i) := by
      unfold Hid; rw [HUP.out]
      have h1 := (cmpQ_pos p1.2 p0.2).1 (by rw [HY.out]; omega)
      unfold upB; rw [decide_eq_true h1]; rfl
    subst h
    go_wp2_with fail
    go_quiet (fail)
    go_wp2_with fail
    go_ret
    exact ⟨_, rfl, congrArg Value.bool HR.out, qB.trans ((below_drewN qw3 nq).mono qB.size)⟩
  · have HR : Hid (decide (0 < cmpQ p1.1 p0.1) = upAt P c i) := by
      unfold Hid; rw [HUP.out]
      have e := (cmpQ_zero p1.2 p0.2).1 (by rw [HY.out]; omega)
      have h1 : ¬ p0.2 < p1.2 := by rw [e]; exact Rat.lt_irrefl
      unfold upB
      rw [decide_eq_false h1, decide_eq_true e.symm, Bool.false_or, Bool.true_and]
      exact decide_eq_decide.2 (cmpQ_pos _ _)
    subst h
    go_wp2_with fail
    go_region_held3 (fun w' => w'.cell? ⟨bp, 0, none⟩ = some (.func (.func 212) #[] #[.pointer (some ⟨bm, 0, none⟩), .pointer (some ⟨bc, 0, none⟩), .pointer (some ⟨bn, 0, none⟩)]))
      (first | exact hq3 | exact r_1_0 | exact r_2_0 | exact r_3_0)
      (first
      | (go_at_call 96; refine (ratCompare_any (ptAt P c (i + 1)).1 (ptAt P c i).1 k hkp (by omega) HS1.out.1 HS0.out.1 _ rg2).mono ?_; rintro e rw3 ⟨_, rfl, rfl, rb3⟩
         have r_3_0 := (rb3.cell (p := ⟨bp, 0, none⟩) (by show bp < rw2.heap.size; omega)).trans r_2_0
         have rs3 : rw2.heap.size ≤ rw3.heap.size := rb3.size
         have rg3 : Good rw3 := rg2.below rb3)
      | (go_at_call 212; refine (point_any rw1 bm bc bn P c k HE4.out HO.out i iz HI0.out (by omega)).mono ?_; rintro e rw2 ⟨_, rfl, rfl, rb2⟩
         have r_2_0 := (rb2.cell (p := ⟨bp, 0, none⟩) (by show bp < rw1.heap.size; omega)).trans r_1_0
         have rs2 : rw1.heap.size ≤ rw2.heap.size := rb2.size
         have rg2 : Good rw2 := rg1.below rb2)
      | (go_at_call 212; refine (point_any qw3.drew bm bc bn P c k HE3.out HO.out (i + 1) (iz + 1) HI1.out (by omega)).mono ?_; rintro e rw1 ⟨_, rfl, rfl, rb1⟩
         have r_1_0 := (rb1.cell (p := ⟨bp, 0, none⟩) (by show bp < qw3.heap.size; omega)).trans hq3
         have rs1 : qw3.heap.size ≤ rw1.heap.size := rb1.size
         have rg1 : Good rw1 := hg3.below rb1
         have HE4 := Lib.hid (HE3.out.below rb1)))
    have rB : Below qw3.heap.size qw3 rw3 := ((((below_drewN qw3 1).trans (rb1.mono (by show qw3.heap.size ≤ qw3.heap.size; omega))).trans (rb2.mono (by show qw3.heap.size ≤ rw1.heap.size; omega))).trans (rb3.mono (by show qw3.heap.size ≤ rw2.heap.size; omega)))
    rw [← HP1.out, ← HP0.out]
    go_wp2_with fail
    go_ret
    exact ⟨_, rfl, congrArg Value.bool HR.out, qB.trans (rB.mono qB.size)⟩
  · have HR : Hid (false = upAt P c i) := by
      unfold Hid; rw [HUP.out]
      have h1 : ¬ p0.2 < p1.2 := fun h1 => by have := (cmpQ_pos p1.2 p0.2).2 h1; rw [HY.out] at this; omega
      have h2 : ¬ p0.2 = p1.2 := fun h2 => by have := (cmpQ_zero p1.2 p0.2).2 h2.symm; rw [HY.out] at this; omega
      unfold upB; rw [decide_eq_false h1, decide_eq_false h2]; rfl
    subst h
    go_wp2_with fail
    go_quiet (fail)
    go_wp2_with fail
    go_ret
    exact ⟨_, rfl, congrArg Value.bool HR.out, qB.trans ((below_drewN qw3 nq).mono qB.size)⟩

end Go.Proofs.YtdhcliekejiegaaGreatDoor

/- The walk over mesh.once. -/
namespace Go.Proofs.YtdhcliekejiegaaGreatDoor
open Go.RowKit Go.Lib

theorem roundsN_succ (P : List PtQ) (c : List Int) (k : Nat) : roundsN P c (k + 1) = roundsN P c k + (if riseAt P c k then 1 else 0) := by
  unfold roundsN
  rw [List.range_succ, List.filter_append, List.length_append]
  congr 1
  cases h : riseAt P c k <;> simp [List.filter, h]
theorem roundsN_le (P : List PtQ) (c : List Int) (k : Nat) : roundsN P c k ≤ k := by
  unfold roundsN
  exact Nat.le_trans (List.length_filter_le _ _) (by simp)
def bentTo (P : List PtQ) (c : List Int) (k : Nat) : Bool := (List.range k).all (bentAt P c)
theorem bentTo_succ (P : List PtQ) (c : List Int) (k : Nat) : bentTo P c (k + 1) = (bentTo P c k && bentAt P c k) := by
  unfold bentTo; rw [List.range_succ, List.all_append]; simp
theorem bentTo_false {P : List PtQ} {c : List Int} {k n : Nat} (hk : k < n) (h : bentAt P c k = false) : bentTo P c n = false := by
  unfold bentTo
  rw [Bool.eq_false_iff]
  intro ha
  have := List.all_eq_true.1 ha k (List.mem_range.2 hk)
  rw [h] at this; cases this

set_option maxHeartbeats 4000000 in
set_option maxRecDepth 100000 in
theorem once_any (w : World) (vp vt vc : Value) (P : List PtQ) (c : List Int) (k : Nat) (hp : RdP w vp (strP P)) (hc : RdI .i64 w vc c) (ho : OnceOK P c k) (hg : Good w) :
    Calls Tryz.prog 167 #[.agg #[vp, vt], vc] w (Ret (fun r _ => r = .bool (onceB P c)) w) := by
  have hc' := hc
  obtain ⟨pc, cc, rfl, _, hcm, _⟩ := hc'.open
  have hcl := ho.len
  have hcp := ho.pos
  have HO := Lib.hid ho
  have HP := Lib.hid hp
  have HC := Lib.hid hc
  clear ho hp hc hc'
  go_enter Tryz.func167, Tryz.ntmps167
  go_wp2_with fail
  obtain ⟨W0, hW0⟩ : ∃ W0, W0 = (((w.alloc (.cells #[vp, vt] 30)).alloc (.cells #[.slice pc c.length cc] 42)).alloc (.cells #[.int .i64 c.length] 3)).alloc (.cells #[.func (.func 212) #[] #[.pointer (some ⟨w.heap.size, 0, none⟩), .pointer (some ⟨w.heap.size + 1, 0, none⟩), .pointer (some ⟨w.heap.size + 1 + 1, 0, none⟩)]] 264) := ⟨_, rfl⟩
  have hB0 : Below w.heap.size w W0 := by rw [hW0]; exact ((((Below.refl _ _).alloc (Nat.le_refl _) _).alloc (by simp) _).alloc (by simp; omega) _).alloc (by simp; omega) _
  have hz0 : W0.heap.size = w.heap.size + 4 := by rw [hW0]; simp
  have y0 : W0.cell? ⟨w.heap.size, 0, none⟩ = some vp := by
    rw [hW0, World.cell?_alloc_past _ _ _ (by simp; omega), World.cell?_alloc_past _ _ _ (by simp; omega), World.cell?_alloc_past _ _ _ (by simp), World.cell?_alloc_at _ _ _ _ rfl]; rfl
  have y1 : W0.cell? ⟨w.heap.size + 1, 0, none⟩ = some (.slice pc c.length cc) := by
    rw [hW0, World.cell?_alloc_past _ _ _ (by simp), World.cell?_alloc_past _ _ _ (by simp), World.cell?_alloc_at _ _ _ _ (by simp)]; rfl
  have y2 : W0.cell? ⟨w.heap.size + 2, 0, none⟩ = some (.int .i64 c.length) := by
    rw [hW0, World.cell?_alloc_past _ _ _ (by simp), World.cell?_alloc_at _ _ _ _ (by simp)]; rfl
  have y3 : W0.cell? ⟨w.heap.size + 3, 0, none⟩ = some (.func (.func 212) #[] #[.pointer (some ⟨w.heap.size, 0, none⟩), .pointer (some ⟨w.heap.size + 1, 0, none⟩), .pointer (some ⟨w.heap.size + 2, 0, none⟩)]) := by
    rw [hW0, World.cell?_alloc_at _ _ _ _ (by simp)]; rfl
  have HEN : Hid (OnceEnv W0 w.heap.size (w.heap.size + 1) (w.heap.size + 2) P c) := ⟨⟨vp, y0, RdC.below HP.out hB0⟩, ⟨_, y1, RdC.below HC.out hB0⟩, y2⟩
  have hg0 : Good W0 := hg.below hB0
  rw [← hW0]
  clear hW0 y0 y1 y2 HP HC
  go_loopw [8, 15] (fun t8 t15 wr => ∃ m : Nat, m ≤ c.length ∧ t15 = .int .i64 (m : Int) ∧ t8 = .int .i64 (roundsN P c m : Int) ∧ Hid (bentTo P c m = true) ∧ Below W0.heap.size W0 wr) (fun _ t15 _ => c.length - (RowKit.intOf t15).toNat)
  case atStart => exact ⟨0, Nat.zero_le _, rfl, rfl, rfl, Below.refl _ _⟩
  case round =>
    obtain ⟨m, hm, rfl, rfl, HB, hbl⟩ := hrel
    have hrl := roundsN_le P c m
    have hx3 := (hbl.cell (p := ⟨w.heap.size + 3, 0, none⟩) (by show w.heap.size + 3 < W0.heap.size; omega)).trans y3
    have hzr := hbl.size
    have hgr : Good wr := hg0.below hbl
    have hgd : Good wr.drew := hgr.drewN 1
    have HE1 : Hid (OnceEnv wr.drew w.heap.size (w.heap.size + 1) (w.heap.size + 2) P c) := (HEN.out.below hbl).below (below_drewN wr 1)
    rcases Nat.lt_or_ge m c.length with hlt | hge
    · have s0 := HO.out.szAt m
      have s1 := HO.out.szAt (m + 1)
      have s2 := HO.out.szAt (m + 2)
      have HS0 := Lib.hid s0
      have HS1 := Lib.hid s1
      have HS2 := Lib.hid s2
      have hkp := HO.out.kpos
      have hkl := HO.out.klim
      have HBE : Hid (bentAt P c m = decide (0 ≤ turnZ (ptAt P c m) (ptAt P c (m + 1)) (ptAt P c (m + 2)))) := rfl
      have w1 : IntKind.i64.wrap ((m : Int) + 1) = (m : Int) + 1 := IntWalk.i64_in _ (by omega)
      have w2 : IntKind.i64.wrap ((m : Int) + 2) = (m : Int) + 2 := IntWalk.i64_in _ (by omega)
      have hltz : (m : Int) < (c.length : Int) := by omega
      clear s0 s1 s2 y3
      go_wp2_with fail
      go_region_held3 (fun w' => w'.cell? ⟨w.heap.size + 3, 0, none⟩ = some (.func (.func 212) #[] #[.pointer (some ⟨w.heap.size, 0, none⟩), .pointer (some ⟨w.heap.size + 1, 0, none⟩), .pointer (some ⟨w.heap.size + 2, 0, none⟩)]))
        (first | exact hx3 | exact q_1_0 | exact q_2_0 | exact q_3_0 | exact q_4_0)
        (first
        | (go_at_call 59; refine (turn_any (ptAt P c m) (ptAt P c (m + 1)) (ptAt P c (m + 2)) k hkp hkl HS0.out HS1.out HS2.out _ qg3).mono ?_; rintro e qw4 ⟨_, rfl, rfl, qb4⟩
           have q_4_0 := (qb4.cell (p := ⟨w.heap.size + 3, 0, none⟩) (by show w.heap.size + 3 < qw3.heap.size; omega)).trans q_3_0
           have qs4 : qw3.heap.size ≤ qw4.heap.size := qb4.size
           have qg4 : Good qw4 := qg3.below qb4)
        | (go_at_call 212; refine (point_any qw2 w.heap.size (w.heap.size + 1) (w.heap.size + 2) P c k HE3.out HO.out (m + 2) ((m : Int) + 2) (by omega) (by omega)).mono ?_; rintro e qw3 ⟨_, rfl, rfl, qb3⟩
           have q_3_0 := (qb3.cell (p := ⟨w.heap.size + 3, 0, none⟩) (by show w.heap.size + 3 < qw2.heap.size; omega)).trans q_2_0
           have qs3 : qw2.heap.size ≤ qw3.heap.size := qb3.size
           have qg3 : Good qw3 := qg2.below qb3
           have HE4 := Lib.hid (HE3.out.below qb3))
        | (go_at_call 212; refine (point_any qw1 w.heap.size (w.heap.size + 1) (w.heap.size + 2) P c k HE2.out HO.out (m + 1) ((m : Int) + 1) (by omega) (by omega)).mono ?_; rintro e qw2 ⟨_, rfl, rfl, qb2⟩
           have q_2_0 := (qb2.cell (p := ⟨w.heap.size + 3, 0, none⟩) (by show w.heap.size + 3 < qw1.heap.size; omega)).trans q_1_0
           have qs2 : qw1.heap.size ≤ qw2.heap.size := qb2.size
           have qg2 : Good qw2 := qg1.below qb2
           have HE3 := Lib.hid (HE2.out.below qb2))
        | (go_at_call 212; refine (point_any wr.drew w.heap.size (w.heap.size + 1) (w.heap.size + 2) P c k HE1.out HO.out m (m : Int) rfl (by omega)).mono ?_; rintro e qw1 ⟨_, rfl, rfl, qb1⟩
           have q_1_0 := (qb1.cell (p := ⟨w.heap.size + 3, 0, none⟩) (by show w.heap.size + 3 < wr.heap.size; omega)).trans hx3
           have qs1 : wr.heap.size ≤ qw1.heap.size := qb1.size
           have qg1 : Good qw1 := hgd.below qb1
           have HE2 := Lib.hid (HE1.out.below qb1)))
      have qB : Below wr.heap.size wr qw4 := (((((below_drewN wr 1).trans (qb1.mono (by show wr.heap.size ≤ wr.heap.size; omega))).trans (qb2.mono (by show wr.heap.size ≤ qw1.heap.size; omega))).trans (qb3.mono (by show wr.heap.size ≤ qw2.heap.size; omega))).trans (qb4.mono (by show wr.heap.size ≤ qw3.heap.size; omega)))
      have HE5 := Lib.hid (HE4.out.below qb4)
      have hx5 := q_4_0
      have hbl5 : Below W0.heap.size W0 qw4 := hbl.trans (qB.mono hzr)
      have hzr5 : wr.heap.size ≤ qw4.heap.size := qB.size
      clear HE1 HE2 HE3 HE4 qb1 qb2 qb3 qb4 q_1_0 q_2_0 q_3_0 q_4_0 hx3 qB HS0 HS1 HS2 w2
      generalize turnZ (ptAt P c m) (ptAt P c (m + 1)) (ptAt P c (m + 2)) = tz at *
      by_cases htz : tz < 0
      · have HR : Hid (false = onceB P c) := by
          unfold Hid onceB
          have := bentTo_false (P := P) hlt (by rw [HBE.out]; exact decide_eq_false (by omega))
          unfold bentTo at this
          rw [this]; rfl
        go_wp2_with fail
        go_ret
        exact ⟨_, rfl, congrArg Value.bool HR.out, hB0.trans (hbl5.mono (by omega))⟩
      · have HB1 : Hid (bentTo P c (m + 1) = true) := by
          unfold Hid; rw [bentTo_succ, HB.out, HBE.out, decide_eq_true (by omega)]; rfl
        go_wp2_with fail
        refine (upper_any _ (w.heap.size + 3) w.heap.size (w.heap.size + 1) (w.heap.size + 2) P c k HE5.out hx5 HO.out qg4 m (m : Int) rfl (by omega)).mono ?_
        rintro e w8 ⟨_, rfl, rfl, hb8⟩
        have HE8 := Lib.hid (HE5.out.below hb8)
        have hx8 := (hb8.cell (p := ⟨w.heap.size + 3, 0, none⟩) (by show w.heap.size + 3 < qw4.heap.size; omega)).trans hx5
        have hg8 : Good w8 := qg4.below hb8
        have hbl8 : Below W0.heap.size W0 w8 := hbl5.trans (hb8.mono (by omega))
        clear HE5 hx5 hb8 hbl5
        cases hu : upAt P c m
        · go_wp2_with fail
          refine (upper_any _ (w.heap.size + 3) w.heap.size (w.heap.size + 1) (w.heap.size + 2) P c k HE8.out hx8 HO.out hg8 (m + 1) ((m : Int) + 1) (by omega) (by omega)).mono ?_
          rintro e w9 ⟨_, rfl, rfl, hb9⟩
          have hbl9 : Below W0.heap.size W0 w9 := hbl8.trans (hb9.mono (by have := hbl8.size; omega))
          clear HE8 hx8 hb9
          cases hv : upAt P c (m + 1)
          · have HRR : Hid (roundsN P c (m + 1) = roundsN P c m) := by unfold Hid; rw [roundsN_succ]; unfold riseAt; rw [hu, hv]; rfl
            clear hu hv
            go_wp2_with fail
            go_roundw
            case rel => exact ⟨m + 1, by omega, by go_num, by rw [HRR.out], HB1, hbl9⟩
            case measure => simp [RowKit.intOf]; omega
          · have HRR : Hid (roundsN P c (m + 1) = roundsN P c m + 1) := by unfold Hid; rw [roundsN_succ]; unfold riseAt; rw [hu, hv]; rfl
            clear hu hv
            go_wp2_with fail
            go_roundw
            case rel => exact ⟨m + 1, by omega, by go_num, by rw [HRR.out]; go_num, HB1, hbl9⟩
            case measure => simp [RowKit.intOf]; omega
        · have HRR : Hid (roundsN P c (m + 1) = roundsN P c m) := by unfold Hid; rw [roundsN_succ]; unfold riseAt; rw [hu]; rfl
          clear hu
          go_wp2_with fail
          go_roundw
          case rel => exact ⟨m + 1, by omega, by go_num, by rw [HRR.out], HB1, hbl8⟩
          case measure => simp [RowKit.intOf]; omega
    · obtain rfl : m = c.length := by omega
      have HR : Hid ((((roundsN P c c.length : Nat) : Int) == 1) = onceB P c) := by
        unfold Hid onceB
        have := HB.out
        unfold bentTo at this
        rw [this, Bool.true_and]
        rw [Bool.eq_iff_iff]; simp; omega
      go_wp2_with fail
      go_ret
      exact ⟨_, rfl, congrArg Value.bool HR.out, hB0.trans (hbl.mono (by omega))⟩

end Go.Proofs.YtdhcliekejiegaaGreatDoor
