import Derived.Test.YtgdpoankaojklaaGreatDoorVG3
import Derived.StillTailTactics
import Derived.Laws.EntriesVeiled
/- Mesh -/
set_option maxHeartbeats 4000000
set_option maxRecDepth 100000
namespace Go.Proofs.YtgdpoankaojklaaGreatDoor
open Go.RowKit Go.Lib
def strP (P : List PtQ) : List PtS := P.map fun p => (RS p.1, RS p.2)
theorem strP_length (P : List PtQ) : (strP P).length = P.length := by simp [strP]
structure OnceEnv (W : World) (bm bc bn : Nat) (P : List PtQ) (c : List Int) : Prop where
 pts : ∃ vp, W.cell? ⟨bm, 0, none⟩ = some vp /\ RdP W vp (strP P)
 cyc : ∃ vc, W.cell? ⟨bc, 0, none⟩ = some vc /\ RdI .i64 W vc c
 num : W.cell? ⟨bn, 0, none⟩ = some (.int .i64 c.length)
theorem OnceEnv.below {W W' : World} {bm bc bn : Nat} {P : List PtQ} {c : List Int} (h : OnceEnv W bm bc bn P c) (hb : Below W.heap.size W W') : OnceEnv W' bm bc bn P c := by
 obtain ⟨⟨vp, h1, h2⟩, ⟨vc, h3, h4⟩, h5⟩ := h;exact ⟨⟨vp, (zcq hb (World.block_lt_of_cell? W _ h1) h1 :), RdC.below h2 hb⟩, ⟨vc, (zcq hb (World.block_lt_of_cell? W _ h3) h3 :), RdC.below h4 hb⟩, (zcq hb (World.block_lt_of_cell? W _ h5) h5 :)⟩
structure OnceOK (P : List PtQ) (c : List Int) (k : Nat) : Prop where
 pos : 0 < c.length
 len : c.length <= 1000000
 plen : P.length <= 1000000
 idx : ∀ x ∈ c, 0 <= x /\ x < P.length
 kpos : 0 < k
 klim : k <= 2000
 sz : ∀ p ∈ P, SzP k p
theorem OnceOK.at {P : List PtQ} {c : List Int} {k : Nat} (h : OnceOK P c k) (i : Nat) : ∃ (j m : Nat) (hj : j < c.length) (hm : m < P.length), i % c.length = j /\ c[j] = (m : Int) /\ ptAt P c i = P[m] := by
 have hj : i % c.length < c.length := Nat.mod_lt _ h.pos;have hx := h.idx _ (List.getElem_mem hj);refine ⟨i % c.length, (c[i % c.length]).toNat, hj, by omega, rfl, by omega, ?_⟩;unfold ptAt;rw [List.getElem?_eq_getElem hj, Option.getD_some, List.getElem?_eq_getElem (by omega), Option.getD_some]
theorem OnceOK.szAt {P : List PtQ} {c : List Int} {k : Nat} (h : OnceOK P c k) (i : Nat) : SzP k (ptAt P c i) := by
 obtain ⟨j, m, hj, hm, _, _, e⟩ := h.at i;rw [e]; exact h.sz _ (List.getElem_mem hm)
theorem point_any (W : World) (bm bc bn : Nat) (P : List PtQ) (c : List Int) (k : Nat) (he : OnceEnv W bm bc bn P c) (ho : OnceOK P c k) (i : Nat) (iz : Int) (hiz : iz = (i : Int)) (hi : i <= 4000000) :
 Calls Tryz.prog 215 #[.int .i64 iz, .pointer (some ⟨bm, 0, none⟩), .pointer (some ⟨bc, 0, none⟩), .pointer (some ⟨bn, 0, none⟩)] W (Ret (fun r _ => r = .agg #[.string (RS (ptAt P c i).1), .string (RS (ptAt P c i).2)]) W) := by
 obtain ⟨j, m, hj, hm, e1, e2, e3⟩ := ho.at i;obtain ⟨⟨vp, c1, r1⟩, ⟨vc, c2, r2⟩, c3⟩ := he;obtain ⟨p1, q1, rfl, a1, a2, a3⟩ := r1.open;obtain ⟨p2, q2, rfl, b1, b2, b3⟩ := r2.open;rw [strP_length] at a1 c1;obtain ⟨g1, o1, rfl, hg1, hc1⟩ := a3 (by intro e; have h := strP_length P; rw [e] at h; simp at h; omega);obtain ⟨g2, o2, rfl, hg2, hc2⟩ := b3 (by intro e; rw [e] at hj; simp at hj);obtain ⟨d1, d2⟩ := hc1 m (by rw [strP_length]; exact hm);have d3 := hc2 j hj;rw [e2] at d3;rw [show (strP P)[m]'(by rw [strP_length]; exact hm) = (RS P[m].1, RS P[m].2) by simp [strP]] at d1 d2;dsimp only at d1 d2;rw [<- show ptAt P c i = P[m] from e3] at d1 d2;have hpl := ho.plen;have hcl := ho.len;have hcp := ho.pos;obtain ⟨n, hn⟩ : ∃ n, n = c.length := ⟨_, rfl⟩;rw [<- hn] at e1 c2 c3 hcl hcp hj b1;have hrem : iz.tmod (n : Int) = (j : Int) := by rw [hiz, <- e1]; exact (Int.ofNat_tmod i n).symm
 have hrem2 : iz % (n : Int) = (j : Int) := by rw [hiz, <- e1]; exact (Int.natCast_emod i n).symm
 have hne : n ≠ 0 := by omega
 have hne2 : ((n : Int) == 0) = false := by rw [beq_eq_false_iff_ne]; omega
 have hwr : IntKind.i64.wrap (j : Int) = (j : Int) := IntWalk.i64_in _ (by omega);obtain ⟨pt, hpt⟩ : ∃ pt, pt = ptAt P c i := ⟨_, rfl⟩;rw [<- hpt] at d1 d2 ⊢;have hjn : (j : Int) < (n : Int) := by omega
 have hmn : (m : Int) < (P.length : Int) := by omega
 have hi0 : 0 <= iz := by omega
 have hi1 : iz <= 4000000 := by omega
 have hn1 : 1 <= (n : Int) := by omega
 clear hn hiz e1 e2 e3 hc1 hc2 a3 b3 r1 r2 ho hpt;go_enter Tryz.func215, Tryz.ntmps215;go_wp2_with fail;obtain ⟨W2, hW2⟩ : ∃ W2, W2 = W.alloc (.cells #[.string ⟨#[]⟩, .string ⟨#[]⟩] 63) := ⟨_, rfl⟩;have hb2 : Below W.heap.size W W2 := by rw [hW2]; exact zal _ _
 have r0 : W2.heap[W.heap.size]? = some (.cells #[.string ⟨#[]⟩, .string ⟨#[]⟩] 63) := by rw [hW2]; exact World.alloc_heap_new _ _
 have r1 : W2.cell? ⟨W.heap.size, 0, none⟩ = some (.string ⟨#[]⟩) := by simp [World.cell?, r0]
 have r2 : W2.cell? ⟨W.heap.size, 1, none⟩ = some (.string ⟨#[]⟩) := by simp [World.cell?, r0]
 have r3 : W2.frozen? ⟨W.heap.size, 0, none⟩ = false := by simp [World.frozen?, r0]
 have r4 : W2.frozen? ⟨W.heap.size, 1, none⟩ = false := by simp [World.frozen?, r0]
 have k1 := zcq hb2 (World.block_lt_of_cell? W _ c1) c1;have k2 := zcq hb2 (World.block_lt_of_cell? W _ c2) c2;have k3 := zcq hb2 (World.block_lt_of_cell? W _ c3) c3;have k4 := zcq hb2 hg1 d1;have k5 := zcq hb2 hg1 d2;have k6 := zcq hb2 hg2 d3;rw [<- hW2];have HW := hid hW2;have HR := hid r0;clear hW2 r0 c1 c2 c3 d1 d2 d3;have hbd : Below W.heap.size W W2.drew := hb2.trans ((below_drewN W2 1).mono hb2.size)
 go_still_tail 10, (by kernel_rfl)
 change wpList _ _ _ _ _ W2.drew;go_wp2_with fail;have f1 : (((W2.setCell ⟨W.heap.size, 0, none⟩ (.string (RS pt.1))).setCell ⟨W.heap.size, 1, none⟩ (.string (RS pt.2))).drew).cell? ⟨W.heap.size, 0, none⟩ = some (.string (RS pt.1)) := by
  show ((W2.setCell ⟨W.heap.size, 0, none⟩ (.string (RS pt.1))).setCell ⟨W.heap.size, 1, none⟩ (.string (RS pt.2))).cell? ⟨W.heap.size, 0, none⟩ = _;rw [World.cell?_setCell_other _ _ _ _ (by simp)];exact World.cell?_setCell_same' _ _ _ (by rw [r1]; rfl)
 have f2 : (((W2.setCell ⟨W.heap.size, 0, none⟩ (.string (RS pt.1))).setCell ⟨W.heap.size, 1, none⟩ (.string (RS pt.2))).drew).cell? ⟨W.heap.size, 1, none⟩ = some (.string (RS pt.2)) := by
  show ((W2.setCell ⟨W.heap.size, 0, none⟩ (.string (RS pt.1))).setCell ⟨W.heap.size, 1, none⟩ (.string (RS pt.2))).cell? ⟨W.heap.size, 1, none⟩ = _;exact World.cell?_setCell_same' _ _ _ (by rw [World.cell?_setCell_other _ _ _ _ (by simp), r2]; rfl)
 exact bodyPost_ret (v := .agg #[.string (RS pt.1), .string (RS pt.2)]) (by simp [results, Tryz.results215, go_sem, f1, f2]) rfl ⟨_, rfl, rfl, ((hb2.setCell (p := ⟨W.heap.size, 0, none⟩) (Nat.le_refl _) _).setCell (p := ⟨W.heap.size, 1, none⟩) (Nat.le_refl _) _).drew⟩
theorem fld_P0 (x y : Value) (w : World) : (Instr.field 63 (.agg #[x, y]) 0).run Tryz.prog w = .ok x w := by kernel_rfl
theorem fld_P1 (x y : Value) (w : World) : (Instr.field 63 (.agg #[x, y]) 1).run Tryz.prog w = .ok y w := by kernel_rfl
theorem cmpQ_pos (p q : Rat) : (0 < cmpQ p q) ↔ q < p := by
 unfold cmpQ;split
 ·rename_i h
  exact ⟨fun h1 => by omega, fun h1 => absurd h (Rat.not_lt.2 (Rat.le_of_lt h1))⟩
 ·split
  ·rename_i h; exact ⟨fun _ => h, fun _ => by omega⟩
  ·rename_i h; exact ⟨fun h1 => by omega, fun h1 => absurd h1 h⟩
theorem cmpQ_zero (p q : Rat) : (cmpQ p q = 0) ↔ p = q := by
 unfold cmpQ;split
 ·rename_i h; exact ⟨fun h1 => by omega, fun h1 => by subst h1; exact absurd h Rat.lt_irrefl⟩
 ·split
  ·rename_i h; exact ⟨fun h1 => by omega, fun h1 => by subst h1; exact absurd h Rat.lt_irrefl⟩
  ·rename_i h1 h2; exact ⟨fun _ => Rat.le_antisymm (Rat.not_lt.1 h2) (Rat.not_lt.1 h1), fun _ => rfl⟩
theorem cmpQ_range (p q : Rat) : -1 <= cmpQ p q /\ cmpQ p q <= 1 := by unfold cmpQ; split; omega; split <;> omega
def upFn (bm bc bn : Nat) : Value := .func (.func 215) #[] #[.pointer (some ⟨bm, 0, none⟩), .pointer (some ⟨bc, 0, none⟩), .pointer (some ⟨bn, 0, none⟩)]
theorem upper_any (W : World) (bp bm bc bn : Nat) (P : List PtQ) (c : List Int) (k : Nat) (he : OnceEnv W bm bc bn P c) (hp : W.cell? ⟨bp, 0, none⟩ = some (upFn bm bc bn)) (ho : OnceOK P c k) (hg : Good W) (i : Nat) (iz : Int) (hiz : iz = (i : Int)) (hi : i <= 3000000) :
 Calls Tryz.prog 216 #[.int .i64 iz, .pointer (some ⟨bp, 0, none⟩)] W (Ret (fun r _ => r = .bool (upAt P c i)) W) := by
 have hbp := World.block_lt_of_cell? W _ hp;dsimp only at hbp;have s1 := ho.szAt (i + 1);have s0 := ho.szAt i;obtain ⟨p1, hp1⟩ : ∃ p1, p1 = ptAt P c (i + 1) := ⟨_, rfl⟩;obtain ⟨p0, hp0⟩ : ∃ p0, p0 = ptAt P c i := ⟨_, rfl⟩;have HO := hid ho;have HS1 := hid s1;have HS0 := hid s0;have HE := hid (he.below (below_drewN W 1));have hgd : Good W.drew := hg.drewN 1;have hkp := ho.kpos;have hkl := ho.klim;have HUP : Hid (upAt P c i = upB p0 p1) := by unfold Hid; rw [hp0, hp1]; rfl
 have HP1 := hid hp1;have HP0 := hid hp0;have hiz1 : iz + 1 = ((i + 1 : Nat) : Int) := by omega
 have HI1 := hid hiz1;have HI0 := hid hiz;have hi0 : 0 <= iz := by omega
 have hi1 : iz <= 3000000 := by omega
 have w1 : IntKind.i64.wrap (iz + 1) = iz + 1 := IntWalk.i64_in _ (by omega);have hp' := hp;unfold upFn at hp';clear ho s1 s0 he hp1 hp0 hiz hiz1 hp;have u0 := fld_P0;have u1 := fld_P1;go_enter Tryz.func216, Tryz.ntmps216;go_wp2_with fail;go_region_held3 (fun w' => w'.cell? ⟨bp, 0, none⟩ = some (.func (.func 215) #[] #[.pointer (some ⟨bm, 0, none⟩), .pointer (some ⟨bc, 0, none⟩), .pointer (some ⟨bn, 0, none⟩)]))
  (first | exact hp' | exact q_1_0 | exact q_2_0 | exact q_3_0)
  (first
  | (go_at_call 31; refine (ratCompare_any (ptAt P c (i + 1)).2 (ptAt P c i).2 k hkp (by omega) HS1.out.2 HS0.out.2 _ qg2).mono ?_; rintro e qw3 ⟨_, rfl, rfl, qb3⟩
     have q_3_0 := zct qb3 q_2_0;have qs3 := qb3.size;have qg3 := qg2.below qb3)
  | (go_at_call 215; refine (point_any qw1 bm bc bn P c k HE1.out HO.out i iz HI0.out (by omega)).mono ?_; rintro e qw2 ⟨_, rfl, rfl, qb2⟩
     have q_2_0 := zct qb2 q_1_0;have qs2 := qb2.size;have qg2 := qg1.below qb2;have HE2 := hid (HE1.out.below qb2))
  | (go_at_call 215; refine (point_any W.drew bm bc bn P c k HE.out HO.out (i + 1) (iz + 1) HI1.out (by omega)).mono ?_; rintro e qw1 ⟨_, rfl, rfl, qb1⟩
     have q_1_0 := zct qb1 hp';have qs1 : W.heap.size <= qw1.heap.size := qb1.size;have qg1 := hgd.below qb1;have HE1 := hid (HE.out.below qb1)))
 have qB : Below W.heap.size W qw3 := zbt (zbt (zbt (below_drewN W 1) qb1) qb2) qb3;have HE3 := hid ((HE2.out.below qb3).below (below_drewN qw3 1));have hg3 : Good qw3.drew := qg3.drewN 1;have hq3 := q_3_0;clear HE HE1 HE2 qb1 qb2 qb3 q_1_0 q_2_0 q_3_0 qg1 qg2 hp';rw [<- HP1.out, <- HP0.out];generalize hy : cmpQ p1.2 p0.2 = y;have hyr := cmpQ_range p1.2 p0.2;rw [hy] at hyr;have HY := hid hy;clear hy;rcases (by omega : y = 1 \/ y = 0 \/ y = -1) with h | h | h
 ·have HR : Hid (true = upAt P c i) := by
   unfold Hid; rw [HUP.out];have h1 := (cmpQ_pos p1.2 p0.2).1 (by rw [HY.out]; omega);unfold upB; rw [decide_eq_true h1]; rfl
  subst h;go_wp2_with fail;go_quiet (fail);go_wp2_with fail;go_ret;exact ⟨_, rfl, congrArg Value.bool HR.out, qB.trans ((below_drewN qw3 nq).mono qB.size)⟩
 ·have HR : Hid (decide (0 < cmpQ p1.1 p0.1) = upAt P c i) := by
   unfold Hid; rw [HUP.out];have e := (cmpQ_zero p1.2 p0.2).1 (by rw [HY.out]; omega);have h1 : ¬ p0.2 < p1.2 := by rw [e]; exact Rat.lt_irrefl
   unfold upB;rw [decide_eq_false h1, decide_eq_true e.symm, Bool.false_or, Bool.true_and];exact decide_eq_decide.2 (cmpQ_pos _ _)
  subst h;go_wp2_with fail;go_region_held3 (fun w' => w'.cell? ⟨bp, 0, none⟩ = some (.func (.func 215) #[] #[.pointer (some ⟨bm, 0, none⟩), .pointer (some ⟨bc, 0, none⟩), .pointer (some ⟨bn, 0, none⟩)]))
   (first | exact hq3 | exact r_1_0 | exact r_2_0 | exact r_3_0)
   (first
   | (go_at_call 31; refine (ratCompare_any (ptAt P c (i + 1)).1 (ptAt P c i).1 k hkp (by omega) HS1.out.1 HS0.out.1 _ rg2).mono ?_; rintro e rw3 ⟨_, rfl, rfl, rb3⟩
      have r_3_0 := zct rb3 r_2_0;have rs3 := rb3.size;have rg3 := rg2.below rb3)
   | (go_at_call 215; refine (point_any rw1 bm bc bn P c k HE4.out HO.out i iz HI0.out (by omega)).mono ?_; rintro e rw2 ⟨_, rfl, rfl, rb2⟩
      have r_2_0 := zct rb2 r_1_0;have rs2 := rb2.size;have rg2 := rg1.below rb2)
   | (go_at_call 215; refine (point_any qw3.drew bm bc bn P c k HE3.out HO.out (i + 1) (iz + 1) HI1.out (by omega)).mono ?_; rintro e rw1 ⟨_, rfl, rfl, rb1⟩
      have r_1_0 := zct rb1 hq3;have rs1 : qw3.heap.size <= rw1.heap.size := rb1.size;have rg1 := hg3.below rb1;have HE4 := hid (HE3.out.below rb1)))
  have rB : Below qw3.heap.size qw3 rw3 := zbt (zbt (zbt (below_drewN qw3 1) rb1) rb2) rb3;rw [<- HP1.out, <- HP0.out];go_wp2_with fail;go_ret;exact ⟨_, rfl, congrArg Value.bool HR.out, qB.trans (rB.mono qB.size)⟩
 ·have HR : Hid (false = upAt P c i) := by
   unfold Hid; rw [HUP.out];have h1 : ¬ p0.2 < p1.2 := fun h1 => by have := (cmpQ_pos p1.2 p0.2).2 h1; rw [HY.out] at this; omega
   have h2 : ¬ p0.2 = p1.2 := fun h2 => by have := (cmpQ_zero p1.2 p0.2).2 h2.symm; rw [HY.out] at this; omega
   unfold upB; rw [decide_eq_false h1, decide_eq_false h2]; rfl
  subst h;go_wp2_with fail;go_quiet (fail);go_wp2_with fail;go_ret;exact ⟨_, rfl, congrArg Value.bool HR.out, qB.trans ((below_drewN qw3 nq).mono qB.size)⟩
theorem roundsN_succ (P : List PtQ) (c : List Int) (k : Nat) : roundsN P c (k + 1) = roundsN P c k + (if riseAt P c k then 1 else 0) := by
 unfold roundsN;rw [List.range_succ, List.filter_append, List.length_append];congr 1;cases h : riseAt P c k <;> simp [List.filter, h]
theorem roundsN_le (P : List PtQ) (c : List Int) (k : Nat) : roundsN P c k <= k := by
 unfold roundsN;exact Nat.le_trans (List.length_filter_le _ _) (by simp)
def bentTo (P : List PtQ) (c : List Int) (k : Nat) : Bool := (List.range k).all (bentAt P c)
theorem bentTo_succ (P : List PtQ) (c : List Int) (k : Nat) : bentTo P c (k + 1) = (bentTo P c k && bentAt P c k) := by
 unfold bentTo; rw [List.range_succ, List.all_append]; simp
theorem bentTo_false {P : List PtQ} {c : List Int} {k n : Nat} (hk : k < n) (h : bentAt P c k = false) : bentTo P c n = false := by
 unfold bentTo;rw [Bool.eq_false_iff];intro ha;have := List.all_eq_true.1 ha k (List.mem_range.2 hk);rw [h] at this; cases this
theorem once_any (w : World) (vp vt vc : Value) (P : List PtQ) (c : List Int) (k : Nat) (hp : RdP w vp (strP P)) (hc : RdI .i64 w vc c) (ho : OnceOK P c k) (hg : Good w) :
 Calls Tryz.prog 181 #[.agg #[vp, vt], vc] w (Ret (fun r _ => r = .bool (onceB P c)) w) := by
 have hc' := hc;obtain ⟨pc, cc, rfl, _, hcm, _⟩ := hc'.open;have hcl := ho.len;have hcp := ho.pos;have HO := hid ho;have HP := hid hp;have HC := hid hc;clear ho hp hc hc';go_enter Tryz.func181, Tryz.ntmps181;go_wp2_with fail;obtain ⟨W0, hW0⟩ : ∃ W0, W0 = (((w.alloc (.cells #[vp, vt] 37)).alloc (.cells #[.slice pc c.length cc] 91)).alloc (.cells #[.int .i64 c.length] 3)).alloc (.cells #[.func (.func 215) #[] #[.pointer (some ⟨w.heap.size, 0, none⟩), .pointer (some ⟨w.heap.size + 1, 0, none⟩), .pointer (some ⟨w.heap.size + 1 + 1, 0, none⟩)]] 271) := ⟨_, rfl⟩;have hB0 : Below w.heap.size w W0 := by rw [hW0]; exact ((((Below.refl _ _).alloc (Nat.le_refl _) _).alloc (by simp) _).alloc (by simp; omega) _).alloc (by simp; omega) _
 have hz0 : W0.heap.size = w.heap.size + 4 := by rw [hW0]; simp
 have y0 : W0.cell? ⟨w.heap.size, 0, none⟩ = some vp := by
  rw [hW0, World.cell?_alloc_past _ _ _ (by simp; omega), World.cell?_alloc_past _ _ _ (by simp; omega), World.cell?_alloc_past _ _ _ (by simp), World.cell?_alloc_at _ _ _ _ rfl]; rfl
 have y1 : W0.cell? ⟨w.heap.size + 1, 0, none⟩ = some (.slice pc c.length cc) := by
  rw [hW0, World.cell?_alloc_past _ _ _ (by simp), World.cell?_alloc_past _ _ _ (by simp), World.cell?_alloc_at _ _ _ _ (by simp)]; rfl
 have y2 : W0.cell? ⟨w.heap.size + 2, 0, none⟩ = some (.int .i64 c.length) := by
  rw [hW0, World.cell?_alloc_past _ _ _ (by simp), World.cell?_alloc_at _ _ _ _ (by simp)]; rfl
 have y3 : W0.cell? ⟨w.heap.size + 3, 0, none⟩ = some (.func (.func 215) #[] #[.pointer (some ⟨w.heap.size, 0, none⟩), .pointer (some ⟨w.heap.size + 1, 0, none⟩), .pointer (some ⟨w.heap.size + 2, 0, none⟩)]) := by
  rw [hW0, World.cell?_alloc_at _ _ _ _ (by simp)]; rfl
 have HEN : Hid (OnceEnv W0 w.heap.size (w.heap.size + 1) (w.heap.size + 2) P c) := ⟨⟨vp, y0, RdC.below HP.out hB0⟩, ⟨_, y1, RdC.below HC.out hB0⟩, y2⟩;have hg0 := hg.below hB0;rw [<- hW0];clear hW0 y0 y1 y2 HP HC;go_loopw [8, 15] (fun t8 t15 wr => ∃ m : Nat, m <= c.length /\ t15 = .int .i64 (m : Int) /\ t8 = .int .i64 (roundsN P c m : Int) /\ Hid (bentTo P c m = true) /\ Below W0.heap.size W0 wr) (fun _ t15 _ => c.length - (RowKit.intOf t15).toNat)
 case atStart => exact ⟨0, Nat.zero_le _, rfl, rfl, rfl, Below.refl _ _⟩
 case round =>
  obtain ⟨m, hm, rfl, rfl, HB, hbl⟩ := hrel;have hrl := roundsN_le P c m;have hx3 := zcq hbl (by show w.heap.size + 3 < W0.heap.size; omega) y3;have hzr := hbl.size;have hgr : Good wr := hg0.below hbl;have hgd : Good wr.drew := hgr.drewN 1;have HE1 : Hid (OnceEnv wr.drew w.heap.size (w.heap.size + 1) (w.heap.size + 2) P c) := (HEN.out.below hbl).below (below_drewN wr 1);rcases Nat.lt_or_ge m c.length with hlt | hge
  ·have s0 := HO.out.szAt m
   have s1 := HO.out.szAt (m + 1);have s2 := HO.out.szAt (m + 2);have HS0 := hid s0;have HS1 := hid s1;have HS2 := hid s2;have hkp := HO.out.kpos;have hkl := HO.out.klim;have HBE : Hid (bentAt P c m = decide (0 <= turnZ (ptAt P c m) (ptAt P c (m + 1)) (ptAt P c (m + 2)))) := rfl;have w1 : IntKind.i64.wrap ((m : Int) + 1) = (m : Int) + 1 := IntWalk.i64_in _ (by omega);have w2 : IntKind.i64.wrap ((m : Int) + 2) = (m : Int) + 2 := IntWalk.i64_in _ (by omega);have hltz : (m : Int) < (c.length : Int) := by omega
   clear s0 s1 s2 y3;go_wp2_with fail;go_region_held3 (fun w' => w'.cell? ⟨w.heap.size + 3, 0, none⟩ = some (.func (.func 215) #[] #[.pointer (some ⟨w.heap.size, 0, none⟩), .pointer (some ⟨w.heap.size + 1, 0, none⟩), .pointer (some ⟨w.heap.size + 2, 0, none⟩)]))
    (first | exact hx3 | exact q_1_0 | exact q_2_0 | exact q_3_0 | exact q_4_0)
    (first
    | (go_at_call 138; refine (turn_any (ptAt P c m) (ptAt P c (m + 1)) (ptAt P c (m + 2)) k hkp hkl HS0.out HS1.out HS2.out _ qg3).mono ?_; rintro e qw4 ⟨_, rfl, rfl, qb4⟩
       have q_4_0 := zct qb4 q_3_0;have qs4 := qb4.size;have qg4 := qg3.below qb4)
    | (go_at_call 215; refine (point_any qw2 w.heap.size (w.heap.size + 1) (w.heap.size + 2) P c k HE3.out HO.out (m + 2) ((m : Int) + 2) (by omega) (by omega)).mono ?_; rintro e qw3 ⟨_, rfl, rfl, qb3⟩
       have q_3_0 := zct qb3 q_2_0;have qs3 := qb3.size;have qg3 := qg2.below qb3;have HE4 := hid (HE3.out.below qb3))
    | (go_at_call 215; refine (point_any qw1 w.heap.size (w.heap.size + 1) (w.heap.size + 2) P c k HE2.out HO.out (m + 1) ((m : Int) + 1) (by omega) (by omega)).mono ?_; rintro e qw2 ⟨_, rfl, rfl, qb2⟩
       have q_2_0 := zct qb2 q_1_0;have qs2 := qb2.size;have qg2 := qg1.below qb2;have HE3 := hid (HE2.out.below qb2))
    | (go_at_call 215; refine (point_any wr.drew w.heap.size (w.heap.size + 1) (w.heap.size + 2) P c k HE1.out HO.out m (m : Int) rfl (by omega)).mono ?_; rintro e qw1 ⟨_, rfl, rfl, qb1⟩
       have q_1_0 := zct qb1 hx3;have qs1 : wr.heap.size <= qw1.heap.size := qb1.size;have qg1 := hgd.below qb1;have HE2 := hid (HE1.out.below qb1)))
   have qB : Below wr.heap.size wr qw4 := zbt (zbt (zbt (zbt (below_drewN wr 1) qb1) qb2) qb3) qb4;have HE5 := hid (HE4.out.below qb4);have hx5 := q_4_0;have hbl5 : Below W0.heap.size W0 qw4 := hbl.trans (qB.mono hzr);have hzr5 : wr.heap.size <= qw4.heap.size := qB.size;clear HE1 HE2 HE3 HE4 qb1 qb2 qb3 qb4 q_1_0 q_2_0 q_3_0 q_4_0 hx3 qB HS0 HS1 HS2 w2;generalize turnZ (ptAt P c m) (ptAt P c (m + 1)) (ptAt P c (m + 2)) = tz at *;by_cases htz : tz < 0
   ·have HR : Hid (false = onceB P c) := by
     unfold Hid onceB;have := bentTo_false (P := P) hlt (by rw [HBE.out]; exact decide_eq_false (by omega));unfold bentTo at this;rw [this]; rfl
    go_wp2_with fail;go_ret;exact ⟨_, rfl, congrArg Value.bool HR.out, hB0.trans (hbl5.mono (by omega))⟩
   ·have HB1 : Hid (bentTo P c (m + 1) = true) := by
     unfold Hid; rw [bentTo_succ, HB.out, HBE.out, decide_eq_true (by omega)]; rfl
    go_wp2_with fail;refine (upper_any _ (w.heap.size + 3) w.heap.size (w.heap.size + 1) (w.heap.size + 2) P c k HE5.out hx5 HO.out qg4 m (m : Int) rfl (by omega)).mono ?_;rintro e w8 ⟨_, rfl, rfl, hb8⟩;have HE8 := hid (HE5.out.below hb8);have hx8 := zcq hb8 (by show w.heap.size + 3 < qw4.heap.size; omega) hx5;have hg8 := qg4.below hb8;have hbl8 : Below W0.heap.size W0 w8 := hbl5.trans (hb8.mono (by omega));clear HE5 hx5 hb8 hbl5;cases hu : upAt P c m
    ·go_wp2_with fail
     refine (upper_any _ (w.heap.size + 3) w.heap.size (w.heap.size + 1) (w.heap.size + 2) P c k HE8.out hx8 HO.out hg8 (m + 1) ((m : Int) + 1) (by omega) (by omega)).mono ?_;rintro e w9 ⟨_, rfl, rfl, hb9⟩;have hbl9 : Below W0.heap.size W0 w9 := hbl8.trans (hb9.mono (by have := hbl8.size; omega));clear HE8 hx8 hb9;cases hv : upAt P c (m + 1)
     ·have HRR : Hid (roundsN P c (m + 1) = roundsN P c m) := by unfold Hid; rw [roundsN_succ]; unfold riseAt; rw [hu, hv]; rfl
      clear hu hv;go_wp2_with fail;go_roundw
      case rel => exact ⟨m + 1, by omega, by go_num, by rw [HRR.out], HB1, hbl9⟩
      case measure => simp [RowKit.intOf]; omega
     ·have HRR : Hid (roundsN P c (m + 1) = roundsN P c m + 1) := by unfold Hid; rw [roundsN_succ]; unfold riseAt; rw [hu, hv]; rfl
      clear hu hv;go_wp2_with fail;go_roundw
      case rel => exact ⟨m + 1, by omega, by go_num, by rw [HRR.out]; go_num, HB1, hbl9⟩
      case measure => simp [RowKit.intOf]; omega
    ·have HRR : Hid (roundsN P c (m + 1) = roundsN P c m) := by unfold Hid; rw [roundsN_succ]; unfold riseAt; rw [hu]; rfl
     clear hu;go_wp2_with fail;go_roundw
     case rel => exact ⟨m + 1, by omega, by go_num, by rw [HRR.out], HB1, hbl8⟩
     case measure => simp [RowKit.intOf]; omega
  ·obtain rfl : m = c.length := by omega
   have HR : Hid ((((roundsN P c c.length : Nat) : Int) == 1) = onceB P c) := by
    unfold Hid onceB;have := HB.out;unfold bentTo at this;rw [this, Bool.true_and];rw [Bool.eq_iff_iff]; simp; omega
   go_wp2_with fail;go_ret;exact ⟨_, rfl, congrArg Value.bool HR.out, hB0.trans (hbl.mono (by omega))⟩
open Go.Shelf
attribute [local go_sem] Oper.semAt_some
def ownL (T : List Tri) : List (Edge × Int) := T.zipIdx.flatMap fun x => (sidesOf x.1).map fun s => (s, (x.2 : Int))
theorem ownL_keys (T : List Tri) : (ownL T).map (·.1) = keysOf T := by
 unfold ownL keysOf;rw [List.map_flatMap];have : ∀ (T : List Tri) (k : Nat), (T.zipIdx k).flatMap (fun a => List.map (fun x => x.1) (List.map (fun s => (s, (a.2 : Int))) (sidesOf a.1))) = T.flatMap sidesOf := by
  intro T
  induction T with
  | nil => intro k; rfl
  | cons t T ih => intro k; simp only [List.zipIdx_cons, List.flatMap_cons, ih]; simp [Function.comp_def]
 exact this T 0
theorem ownL_take (T : List Tri) (k : Nat) (h : k < T.length) : ownL (T.take (k + 1)) = ownL (T.take k) ++ (sidesOf T[k]).map fun s => (s, (k : Int)) := by
 unfold ownL;rw [List.take_succ_eq_append_getElem h, List.zipIdx_append, List.flatMap_append];simp [Nat.min_eq_left (Nat.le_of_lt h)]
theorem keysOf_take (T : List Tri) (k : Nat) (h : k < T.length) : keysOf (T.take (k + 1)) = keysOf (T.take k) ++ sidesOf T[k] := by
 unfold keysOf;rw [List.take_succ_eq_append_getElem h, List.flatMap_append];simp
theorem sideK_list (t : Tri) : all3.map (sideK t) = sidesOf t := rfl
theorem sides_stops (F : Fence) (n : Nat) (h7 : F.fn 243) (hro : F.round = none) (hn : 1 <= n) (Bs n₀ : Nat) (t : Tri) (w : World) (hBs : Bs < w.heap.size)
 (h0 : w.cell? ⟨Bs, 0, none⟩ = some (.int .i64 t.1)) (h1 : w.cell? ⟨Bs, 1, none⟩ = some (.int .i64 t.2.1)) (h2 : w.cell? ⟨Bs, 2, none⟩ = some (.int .i64 t.2.2)) :
 SeqStopsK F n Tryz.prog 243 #[.pointer (some ⟨Bs, 0, none⟩)] (encSide t) (KeepAt n₀ Bs) (fun ys => ys = all3) (fun pre => pre <+: all3) 3 w := fun l J Jx W hW hJ _ hY h0' =>
 sides1_in F n h7 hro hn l Bs n₀ t J Jx (fun pre W hj => hJ pre W W.drew none hj ⟨rfl, rfl, rfl, Nat.le_refl _, fun _ _ _ => rfl⟩ (fun r e => by cases e)) hY W
  ((zcq hW hBs h0 :)) ((zcq hW hBs h1 :)) ((zcq hW hBs h2 :)) h0'
def markOf (D : Nat) : Deferred := { target := .collected D, args := #[] }
def Marks (B : Nat) (ds : List Deferred) (w : World) : Prop := ∃ Ds : List Nat, ds = Ds.map markOf /\ Ds.Nodup /\ ∀ D ∈ Ds, B <= D /\ w.heap[D]? = some (.deferred (some []))
theorem Marks.nil (B : Nat) (w : World) : Marks B [] w := ⟨[], rfl, List.nodup_nil, fun _ h => absurd h (by simp)⟩
theorem Marks.cons {B D : Nat} {ds : List Deferred} {w w' : World} (h : Marks B ds w) (hk : ∀ k : Nat, w.heap[k]? = some (.deferred (some [])) -> w'.heap[k]? = some (.deferred (some []))) (hB : B <= D) (hD : w.heap.size <= D) (hn : w'.heap[D]? = some (.deferred (some []))) : Marks B (markOf D :: ds) w' := by
 obtain ⟨Ds, rfl, hd, ha⟩ := h;refine ⟨D :: Ds, rfl, List.nodup_cons.2 ⟨fun hm => ?_, hd⟩, fun E hE => ?_⟩
 ·have := (Array.getElem?_eq_some_iff.1 (ha D hm).2).1
  omega
 ·rcases List.mem_cons.1 hE with rfl | hE
  ·exact ⟨hB, hn⟩
  ·exact ⟨(ha E hE).1, hk E (ha E hE).2⟩
theorem Marks.kept {B : Nat} {ds : List Deferred} {w w' : World} (h : Marks B ds w) (hk : ∀ k : Nat, w.heap[k]? = some (.deferred (some [])) -> w'.heap[k]? = some (.deferred (some []))) : Marks B ds w' := by
 obtain ⟨Ds, rfl, hd, ha⟩ := h;exact ⟨Ds, rfl, hd, fun E hE => ⟨(ha E hE).1, hk E (ha E hE).2⟩⟩
structure Struck (B : Nat) (w w' : World) : Prop where
 os : w'.os = w.os
 tape : w'.tape = w.tape
 output : w'.output = w.output
 size : w.heap.size <= w'.heap.size
 block : ∀ k, (k < B \/ ∀ l, w.heap[k]? ≠ some (.deferred l)) -> k < w.heap.size -> w'.heap[k]? = w.heap[k]?
theorem Struck.refl (B : Nat) (w : World) : Struck B w w := ⟨rfl, rfl, rfl, Nat.le_refl _, fun _ _ _ => rfl⟩
theorem Struck.below {B : Nat} {w w' : World} (h : Struck B w w') (hB : B <= w.heap.size) : Below B w w' := by
 exact ⟨h.os, h.tape, h.output, h.size, fun k hk => h.block k (.inl hk) (by omega)⟩
theorem Struck.boxed {B b t : Nat} {w w' : World} {v : Value} (h : Struck B w w') (hb : Boxed w b t v) : Boxed w' b t v :=
 (h.block b (.inr fun l e => by rw [show w.heap[b]? = _ from hb] at e; cases e) hb.lt).trans hb
theorem Struck.mapL {α β : Type} {K E : Nat} {V : KeyView α K} {ev : β -> Lit} {B b n : Nat} {w w' : World} {D : DataW Unit} {L : List (α × β)} (h : Struck B w w') (hm : MapL V E ev w b n D L) : MapL V E ev w' b n D L := by
 obtain ⟨⟨es, clock, hh, F, hs, hD⟩, hr⟩ := hm;exact ⟨⟨es, clock, (h.block b (.inr fun l e => by rw [hh] at e; cases e) (Array.getElem?_eq_some_iff.1 hh).1).trans hh, F, hs, hD⟩, hr⟩
theorem leaves_marks {F : Fence} {n : Nat} {P : Program} {fn : Func} {tmps : Array Value} {R : Ending -> World -> Prop} {B : Nat} : ∀ {ds : List Deferred} {w : World}, Marks B ds w -> (∀ w', Struck B w w' -> LeavesIn F n P fn tmps R [] .returning w') -> LeavesInM F n P fn tmps R ds .returning w := by
 intro ds
 induction ds with
 | nil => intro w _ h; exact h w (Struck.refl _ _)
 | cons d ds ih =>
   rintro w ⟨Ds, hd, hnd, ha⟩ h;cases Ds with
   | nil => simp at hd
   | cons D Ds =>
     simp only [List.map_cons, List.cons.injEq] at hd;obtain ⟨rfl, rfl⟩ := hd;obtain ⟨hD, hnd⟩ := List.nodup_cons.1 hnd;have hK := (ha D (by simp)).2;refine ⟨by simp, .inl ⟨D, _, rfl, run_takeDeferred hK, ?_⟩⟩;refine ih (w := w.putObj D (.deferred none)) ⟨Ds, rfl, hnd, fun E hE => ⟨(ha E (by simp [hE])).1, ?_⟩⟩ (fun w' hw' => h w' ?_)
     ·rw [World.putObj_heap_other (by rintro rfl; exact hD hE)]
      exact (ha E (by simp [hE])).2
     ·have hp : ∀ k, k ≠ D -> (w.putObj D (.deferred none)).heap[k]? = w.heap[k]? := fun k hk => World.putObj_heap_other hk
      have hg := grownBy_putObj' w D (.deferred none);refine ⟨hw'.os.trans hg.os, hw'.tape.trans hg.tape, hw'.output.trans hg.output, Nat.le_trans hg.size hw'.size, fun k hk hlt => ?_⟩;have hkD : k ≠ D := by
       rintro rfl;rcases hk with hk | hk
       ·have := (ha k (by simp)).1; omega
       ·exact hk _ hK
      refine (hw'.block k ?_ (Nat.lt_of_lt_of_le hlt hg.size)).trans (hp k hkD);rw [hp k hkD]; exact hk
def OwnersP (T : List Tri) (n : Nat) (v : Value) (w' : World) : Prop :=
 ((keysOf T).Nodup /\ ∃ b D, n <= b /\ v = .tuple #[.map (some b), .bool true] /\ MapL viewE 3 (Lit.int .i64) w' b (3 * T.length) D (ownL T)) \/ (¬ (keysOf T).Nodup /\ v = .tuple #[.map none, .bool false])
theorem owners_in (n : Nat) (hn : 6 <= n) (w : World) (vp vt : Value) (T : List Tri) (hrd : RdT w vt T) (hlen : T.length <= 1000000) (hI : ∀ t ∈ T, InI t.1 /\ InI t.2.1 /\ InI t.2.2) :
 CallsIn Fence.wide n Tryz.prog 179 #[.agg #[vp, vt]] w (Ret (OwnersP T w.heap.size) w) := by
 have h1 : 1 <= n := by omega
 have hmm := @run_makeMap Tryz.prog;obtain ⟨p, c, rfl, hlc, hcm, hr⟩ := hrd.open;have HR := hid hr;have HII := hid hI;clear hr hI hrd;refine callsIn_of_wp_marks Tryz.func179 rfl trivial ?_ rfl;simp only [Tryz.ntmps179, List.size_toArray, List.length_cons, List.length_nil, Nat.reduceAdd, Nat.reduceSub, Array.replicate_succ, Array.replicate_zero, List.push_toArray, List.append_toArray, List.nil_append, List.cons_append];gi_wp2_with fail;obtain ⟨W0, hW0⟩ : ∃ W0, W0 = ((((w.alloc (.cells #[vp, .slice p T.length c] 37)).alloc (.cells #[.map none] 242)).alloc (.cells #[.bool false] 4)).alloc (.map #[] 0)).alloc (.cells #[.map (some (w.heap.size + 1 + 1 + 1))] 242) := ⟨_, rfl⟩;have hB0 : Below w.heap.size w W0 := by rw [hW0]; exact (((((Below.refl _ _).alloc (Nat.le_refl _) _).alloc (by simp) _).alloc (by simp; omega) _).alloc (by simp; omega) _).alloc (by simp; omega) _
 have hz0 : W0.heap.size = w.heap.size + 5 := by rw [hW0]; simp
 have x1 : Boxed W0 (w.heap.size + 1) 242 (.map none) := by
  rw [hW0]; refine Boxed.alloc (Boxed.alloc (Boxed.alloc ?_ _) _) _;have := Boxed.new (w.alloc (.cells #[vp, .slice p T.length c] 37)) 242 (.map none);simpa using this
 have x2 : Boxed W0 (w.heap.size + 2) 4 (.bool false) := by
  rw [hW0]; refine Boxed.alloc (Boxed.alloc ?_ _) _;have := Boxed.new ((w.alloc (.cells #[vp, .slice p T.length c] 37)).alloc (.cells #[.map none] 242)) 4 (.bool false);simpa using this
 have x4 : Boxed W0 (w.heap.size + 4) 242 (.map (some (w.heap.size + 3))) := by
  rw [hW0];have := Boxed.new ((((w.alloc (.cells #[vp, .slice p T.length c] 37)).alloc (.cells #[.map none] 242)).alloc (.cells #[.bool false] 4)).alloc (.map #[] 0)) 242 (.map (some (w.heap.size + 3)));simpa using this
 have hm0 : MapL viewE 3 (Lit.int .i64) W0 (w.heap.size + 3) 0 (.map []) [] := by
  rw [hW0];have := (MapL.made (β := Int) ((w.alloc (.cells #[vp, .slice p T.length c] 37)).alloc (.cells #[.map none] 242) |>.alloc (.cells #[.bool false] 4)) viewE 3 (Lit.int .i64)).kept (World.grownBy_alloc _ (.cells #[.map (some (w.heap.size + 1 + 1 + 1))] 242) none) (by simp);simpa using this
 rw [<- hW0];have HZ := hid hz0;clear hW0 hz0;refine wpIn_loop (fun a wr => ∃ (k : Nat) (ds : List Deferred) (u5 u6 u7 u8 u9 u10 u16 u17 u18 u19 u20 u21 u22 u23 u24 u25 u26 u27 u28 u29 u30 u31 u32 u33 u34 : Value), (k <= T.length /\ Hid ((keysOf (T.take k)).Nodup) /\ (∃ D, Hid (MapL viewE 3 (Lit.int .i64) wr (w.heap.size + 3) (3 * k) D (ownL (T.take k)))) /\
  (Boxed wr (w.heap.size + 1) 242 (.map none) /\ Boxed wr (w.heap.size + 2) 4 (.bool false) /\ Boxed wr (w.heap.size + 4) 242 (.map (some (w.heap.size + 3)))) /\ Below w.heap.size w wr /\ w.heap.size + 5 <= wr.heap.size /\ Marks (w.heap.size + 5) ds wr) /\
  a = { tmps := #[.agg #[vp, .slice p T.length c], .pointer (some ⟨w.heap.size, 0, none⟩), .pointer (some ⟨w.heap.size + 1, 0, none⟩), .pointer (some ⟨w.heap.size + 2, 0, none⟩), .pointer (some ⟨w.heap.size + 4, 0, none⟩), u5, u6, u7, u8, u9, u10, .map (some (w.heap.size + 3)), .pointer (some ⟨w.heap.size, 1, none⟩),
   .slice p T.length c, .int .i64 T.length, .int .i64 k, u16, u17, u18, u19, u20, u21, u22, u23, u24, u25, u26, u27, u28, u29, u30, u31, u32, u33, u34, undef], defers := ds })
  (fun a _ => T.length - (RowKit.intOf (a.tmps.getD 15 undef)).toNat) ?_ ?_
 ·exact ⟨0, [], _, _, _, _, _, _, _, _, _, _, _, _, _, _, _, _, _, _, _, _, _, _, _, _, _, ⟨Nat.zero_le _, by simp [Hid, keysOf], ⟨_, hid hm0⟩, ⟨x1, x2, x4⟩, hB0, by have := HZ.out; omega, Marks.nil _ _⟩, rfl⟩
 ·rintro a wr ⟨k, ds, u5, u6, u7, u8, u9, u10, u16, u17, u18, u19, u20, u21, u22, u23, u24, u25, u26, u27, u28, u29, u30, u31, u32, u33, u34, ⟨hk, HN, ⟨D, HM⟩, ⟨y1, y2, y4⟩, hB, hz, hds⟩, rfl⟩
  clear x1 x2 x4 hm0 hB0;by_cases hlt : k < T.length
  ·obtain ⟨b, off, rfl, hbl, hcell⟩ := HR.out (List.ne_nil_of_length_pos (by omega))
   obtain ⟨e0, e1, e2⟩ := hcell k hlt;obtain ⟨t, ht⟩ : ∃ t, t = T[k] := ⟨_, rfl⟩;rw [<- ht] at e0 e1 e2;have d0 := zcq hB hbl e0;have d1 := zcq hB hbl e1;have d2 := zcq hB hbl e2;have HT := hid ht;clear hcell e0 e1 e2 ht;have hltz : (k : Int) < (T.length : Int) := by omega
   have g4 := y4.cell;gi_wp2_with fail;refine ⟨trivial, ?_⟩;refine CallsIn.mono (callsIn_wide.2 (sides_any t _)) ?_;rintro e w3 ⟨rfl, rfl⟩;obtain ⟨W1, hW1⟩ : ∃ W1, W1 = ((wr.alloc (.cells #[.int .i64 (k : Int)] 3)).alloc (.cells #[.int .i64 t.1, .int .i64 t.2.1, .int .i64 t.2.2] 95)).alloc (.cells #[.int .i64 t.1, .int .i64 t.2.1, .int .i64 t.2.2] 95) := ⟨_, rfl⟩;have hbW1 : Below wr.heap.size wr W1 := by rw [hW1]; exact (((Below.refl _ _).alloc (Nat.le_refl _) _).alloc (by simp) _).alloc (by simp; omega) _
   have hz1 : W1.heap.size = wr.heap.size + 3 := by rw [hW1]; simp
   have z5 : Boxed W1 wr.heap.size 3 (.int .i64 (k : Int)) := by rw [hW1]; exact ((Boxed.new wr _ _).alloc _).alloc _
   have s0 : W1.cell? ⟨wr.heap.size + 2, 0, none⟩ = some (.int .i64 t.1) := by rw [hW1, World.cell?_alloc_at _ _ _ _ (by simp)]; rfl
   have s1 : W1.cell? ⟨wr.heap.size + 2, 1, none⟩ = some (.int .i64 t.2.1) := by rw [hW1, World.cell?_alloc_at _ _ _ _ (by simp)]; rfl
   have s2 : W1.cell? ⟨wr.heap.size + 2, 2, none⟩ = some (.int .i64 t.2.2) := by rw [hW1, World.cell?_alloc_at _ _ _ _ (by simp)]; rfl
   gi_wp2_with fail;rw [<- hW1];have z1 : Boxed W1 (w.heap.size + 1) 242 (.map none) := (hbW1.block _ (by omega)).trans y1;have z2 : Boxed W1 (w.heap.size + 2) 4 (.bool false) := (hbW1.block _ (by omega)).trans y2;have z4 : Boxed W1 (w.heap.size + 4) 242 (.map (some (w.heap.size + 3))) := (hbW1.block _ (by omega)).trans y4;have hBW : Below w.heap.size w W1 := hB.trans (hbW1.mono hB.size);have hm1 : MapL viewE 3 (Lit.int .i64) W1 (w.heap.size + 3) (3 * k) D (ownL (T.take k)) := HM.out.below hbW1 (by omega);have hds1 : Marks (w.heap.size + 5) ds W1 := hds.kept fun j hj => (hbW1.block j (Array.getElem?_eq_some_iff.1 hj).1).trans hj;have HIN : Hid (∀ x, InE (sideK t x)) := fun x => by
    obtain ⟨i1, i2, i3⟩ := HII.out t (by rw [HT.out]; exact List.getElem_mem hlt);rcases x with ⟨x, hx⟩
    rcases (by omega : x = 0 \/ x = 1 \/ x = 2) with rfl | rfl | rfl
    ·exact ⟨i1, i2⟩
    ·exact ⟨i2, i3⟩
    ·exact ⟨i3, i1⟩
   clear hW1 hbW1 y1 y2 y4 g4 hds HM hB;refine wpIn_rangeFunc_ownH rfl h1 (gf := 243) (lb := #[.pointer (some ⟨wr.heap.size + 1 + 1, 0, none⟩)]) rfl trivial (enters_of Tryz.func243 (by kernel_rfl) rfl)
    (sides_stops Fence.wide (n - 1) trivial rfl (by omega) (wr.heap.size + 2) w.heap.size t W1 (by omega) s0 s1 s2) (fun h k => KeepAt.trans h k) (keepAt_b (by omega) (by omega)) (Below.refl _ _) (fun _ => rfl)
    (fun pre W => W1.grownBy W (some (w.heap.size + 3)) /\ ((∃ D, Hid (MapL viewE 3 (Lit.int .i64) W (w.heap.size + 3) (3 * k + pre.length) D (ownL (T.take k) ++ pre.map fun x => (sideK t x, (k : Int))))) /\ Hid ((keysOf (T.take k) ++ pre.map (sideK t)).Nodup)))
    (fun c pre W => (c = .ret /\ ¬ (keysOf (T.take k) ++ pre.map (sideK t)).Nodup) /\ (Boxed W (w.heap.size + 1) 242 (.map none) /\ Boxed W (w.heap.size + 2) 4 (.bool false) /\ (∀ j : Nat, W1.heap[j]? = some (.deferred (some [])) -> W.heap[j]? = some (.deferred (some []))) /\ W1.heap.size <= W.heap.size /\ Below w.heap.size w W))
    ?hI ?hIx ?h0 (fun x a' W => ∃ Bx, (W1.heap.size <= Bx /\ W.heap[Bx]? = some (.cells #[.int .i64 (sideK t x).1, .int .i64 (sideK t x).2] 164)) /\
     a' = { tmps := #[.agg #[vp, .slice (some ⟨b, off, none⟩) T.length c], .pointer (some ⟨w.heap.size, 0, none⟩), .pointer (some ⟨w.heap.size + 1, 0, none⟩), .pointer (some ⟨w.heap.size + 2, 0, none⟩), .pointer (some ⟨w.heap.size + 4, 0, none⟩), .pointer (some ⟨wr.heap.size, 0, none⟩), .pointer (some ⟨wr.heap.size + 1, 0, none⟩), u7, .pointer (some ⟨Bx, 0, none⟩), u9, u10,
      .map (some (w.heap.size + 3)), .pointer (some ⟨w.heap.size, 1, none⟩), .slice (some ⟨b, off, none⟩) T.length c, .int .i64 T.length, .int .i64 k, .bool true, .int .i64 k, .pointer (some ⟨b, off + k * 3, none⟩), .agg #[.int .i64 t.1, .int .i64 t.2.1, .int .i64 t.2.2], .agg #[.int .i64 t.1, .int .i64 t.2.1, .int .i64 t.2.2],
      .func (.func 243) #[] #[.pointer (some ⟨wr.heap.size + 1 + 1, 0, none⟩)], .int .i64 (x.val : Int), .agg #[.int .i64 (sideK t x).1, .int .i64 (sideK t x).2], u24, u25, u26, u27, u28, u29, u30, u31, u32, u33, u34, undef], defers := [] })
    ?hAx ?assign ?body ?done ?stop
   case hI =>
    rintro pre W W' row ⟨hs, ⟨D', hm⟩, hn⟩ hg hr;have hne : some (w.heap.size + 3) ≠ row := fun e => by have := (hr _ e.symm).1; omega
    exact ⟨⟨hg.os.trans hs.os, hg.tape.trans hs.tape, hg.output.trans hs.output, Nat.le_trans hs.size hg.size, fun j hj hjn => (hg.block j (Nat.lt_of_lt_of_le hj hs.size) (fun e => by have := (hr _ e.symm).1; omega)).trans (hs.block j hj hjn)⟩, ⟨D', hm.out.kept hg hne⟩, hn⟩
   case hIx =>
    rintro c' pre W W' row ⟨hc, x1, x2, hk', hzz, hbb⟩ hg hr;refine ⟨hc, x1.kept hg (fun e => by have := (hr _ e.symm).1; omega), x2.kept hg (fun e => by have := (hr _ e.symm).1; omega), fun j hj => ?_, Nat.le_trans hzz hg.size, hbb.grown hg hbb.size (fun j e => by have := (hr _ e).1; omega)⟩;have hj1 := (Array.getElem?_eq_some_iff.1 hj).1;have hjW := (Array.getElem?_eq_some_iff.1 (hk' j hj)).1;exact (hg.block j hjW (fun e => by have := (hr _ e.symm).1; omega)).trans (hk' j hj)
   case h0 => exact ⟨⟨rfl, rfl, rfl, Nat.le_refl _, fun _ _ _ => rfl⟩, ⟨D, by simpa [Hid] using hm1⟩, by simpa [Hid] using HN.out⟩
   case hAx =>
    rintro x a' _ W W' row ⟨Bx, ⟨h1, h2⟩, h3⟩ hg hr;refine ⟨Bx, ⟨h1, (hg.block Bx (Array.getElem?_eq_some_iff.1 h2).1 (fun e => ?_)).trans h2⟩, h3⟩;obtain ⟨_, o, ho, hc⟩ := hr Bx e.symm;rw [h2] at ho; cases ho; cases hc
   case assign =>
    rintro l pre x W K ⟨hs, ⟨D', hm⟩, hnn⟩ hK;dsimp only [encSide];gi_wp2_with fail;have hg1 := World.grownBy_alloc W (.cells #[.int .i64 (sideK t x).1, .int .i64 (sideK t x).2] 164) none;refine hK _ _ ((KeepsOthers.alloc _ _).from _) ⟨(Below.refl _ W).alloc (by have := hs.size; omega) _, Below.heap_alloc _ _ _ (by have := hs.size; omega)⟩ ⟨⟨hg1.os.trans hs.os, hg1.tape.trans hs.tape, hg1.output.trans hs.output, Nat.le_trans hs.size hg1.size, fun j hj hjn => (hg1.block j (Nat.lt_of_lt_of_le hj hs.size) (by simp)).trans (hs.block j hj hjn)⟩, ⟨D', hm.out.kept hg1 (by simp)⟩, hnn⟩ ⟨W.heap.size, ⟨hs.size, World.alloc_heap_new _ _⟩, rfl⟩
   case body =>
    rintro l pre x a' W hl ⟨r, hr⟩ ⟨hs, ⟨D', hm⟩, hnn⟩ ⟨Bx, ⟨hBx, hbx⟩, rfl⟩ hlt';have q1 : Boxed W (w.heap.size + 1) 242 (.map none) := z1.kept hs (by simp);have q2 : Boxed W (w.heap.size + 2) 4 (.bool false) := z2.kept hs (by simp);have q4 : Boxed W (w.heap.size + 4) 242 (.map (some (w.heap.size + 3))) := z4.kept hs (by simp);have q5 : Boxed W wr.heap.size 3 (.int .i64 (k : Int)) := z5.kept hs (by simp; omega);have c1 := q1.cell;have c1f := q1.frozen;have c2 := q2.cell;have c2f := q2.frozen;have c4 := q4.cell;have c5 := q5.cell;have cb0 : W.cell? ⟨Bx, 0, none⟩ = some (.int .i64 (sideK t x).1) := by simp [World.cell?, hbx]
    have cb1 : W.cell? ⟨Bx, 1, none⟩ = some (.int .i64 (sideK t x).2) := by simp [World.cell?, hbx]
    have hown := hm.out.owns;have HW := hid hs;have HX := HIN.out x;have hkey : keyOf Tryz.prog 164 (.agg #[.int .i64 (sideK t x).1, .int .i64 (sideK t x).2]) = some (kE (sideK t x)) := keyE HX.1 HX.2;have hhas := hm.out.has_iff HX;have hkeys : (ownL (T.take k) ++ pre.map fun x => (sideK t x, (k : Int))).map (·.1) = keysOf (T.take k) ++ pre.map (sideK t) := by
     rw [List.map_append, ownL_keys, List.map_map]; rfl
    rw [hkeys] at hhas;have hsz := hs.size;have HBX := hid hbx;have HBR := hid hr;have HK := hid hkey;have HHAS := hid hhas;have HKS := hid hkeys;clear hs hbx hr hkey hhas hkeys q1 q2 q4 q5;cases hsn : Maps.has D' (viewE.lit (sideK t x))
    ·have hnk : sideK t x ∉ keysOf (T.take k) ++ pre.map (sideK t) := fun hmm => by
      have := HHAS.out.2 hmm;rw [hsn] at this; cases this
     have HNK := hid hnk;have HSN := hid hsn;clear hnk hsn;gi_wp2_with (first
      | (gi_at_lookup; refine wpListIn_lookup_own_ok_int _ rfl _ _ 242 rfl 164 3 .i64 lawE und_EI und_I (zeroI _) (w.heap.size + 3) (3 * k + pre.length) D' rfl hown _ _ rfl HK.out ?_; rw [show Maps.has D' (kE (sideK t x)) = false from HSN.out]; intro cz hat hwc; clear hat hwc)
      | (gi_at_mapUpdate; refine wpListIn_mapUpdate_own _ rfl _ _ _ 242 rfl 164 3 lawE und_EI _ (w.heap.size + 3) (3 * k + pre.length) D' rfl hown (by unfold maxLen; omega) _ _ _ rfl rfl HK.out _ [] (plainElem_int und_I (WalkArith.wf_i64 (by omega))) ?_; intro w1 hown1 hgrow1))
     have hs := HW.out;have hne : sideK t x ∉ (ownL (T.take k) ++ pre.map fun x => (sideK t x, (k : Int))).map (·.1) := by rw [HKS.out]; exact HNK.out
     refine ⟨KeepsFrom.of_grownBy hgrow1 (fun j e => by cases e; omega), ⟨(Below.refl _ W).grown hgrow1 (by omega) (fun j e => by cases e; omega), hgrow1.block _ (by omega) (by simp; omega)⟩,
      ⟨hgrow1.os.trans hs.os, hgrow1.tape.trans hs.tape, hgrow1.output.trans hs.output, Nat.le_trans hs.size hgrow1.size, fun j hj hjn => (hgrow1.block j (Nat.lt_of_lt_of_le hj hs.size) hjn).trans (hs.block j hj hjn)⟩, ⟨D'.put (kE (sideK t x)) (.lit (.int .i64 (k : Int))), ?_⟩, ?_⟩
     ·have := hm.out.put (i := (k : Int)) HX (fun j hj => absurd (List.mem_map.2 ⟨_, hj, rfl⟩) hne) hown1
      unfold Hid;rw [List.map_append, <- List.append_assoc, List.length_append];exact this
     ·unfold Hid
      rw [List.map_append, <- List.append_assoc]
      exact List.nodup_append.2 ⟨hnn.out, by simp, fun y hy z hz e => by
           simp at hz; subst hz; subst e; exact HNK.out hy⟩
    ·have hnk : sideK t x ∈ keysOf (T.take k) ++ pre.map (sideK t) := HHAS.out.1 hsn
     have HNK := hid hnk;have HSN := hid hsn;clear hnk hsn;gi_wp2_with (first
      | (gi_at_lookup; refine wpListIn_lookup_own_ok_int _ rfl _ _ 242 rfl 164 3 .i64 lawE und_EI und_I (zeroI _) (w.heap.size + 3) (3 * k + pre.length) D' rfl hown _ _ rfl HK.out ?_; rw [show Maps.has D' (kE (sideK t x)) = true from HSN.out]; intro cz hat hwc; clear hat hwc))
     have hs := HW.out;have q1 : Boxed W (w.heap.size + 1) 242 (.map none) := z1.kept hs (by simp);have q2 : Boxed W (w.heap.size + 2) 4 (.bool false) := z2.kept hs (by simp);refine ⟨((KeepsOthers.setCell _ _ _).trans (KeepsOthers.setCell _ _ _)).from _, ⟨rfl, fun hnd => ?_⟩, (q1.set _).other (by omega) _, (q2.other (by omega) _).set _, fun j hj => ?_, by simpa using hsz, ?_⟩
     ·rw [List.map_append, <- List.append_assoc] at hnd
      exact (List.nodup_append.1 hnd).2.2 _ HNK.out _ (by simp) rfl
     ·have hW : W.heap[j]? = some (.deferred (some [])) := (hs.block j (Array.getElem?_eq_some_iff.1 hj).1 (fun e => by cases e; obtain ⟨es, ck, hh, _⟩ := hm1.owns; rw [hh] at hj; cases hj)).trans hj
      rw [Below.heap_setCell _ _ _ j (by rintro rfl; rw [show W.heap[w.heap.size + 2]? = _ from q2] at hW; cases hW), Below.heap_setCell _ _ _ j (by rintro rfl; rw [show W.heap[w.heap.size + 1]? = _ from q1] at hW; cases hW)];exact hW
     ·exact ((hBW.grown hs hBW.size (fun j e => by cases e; omega)).setCell (by show w.heap.size <= w.heap.size + 1; omega) _).setCell (by show w.heap.size <= w.heap.size + 2; omega) _
   case done =>
    rintro E ys W hE rfl ⟨hs, ⟨D', hm⟩, hnn⟩ hK;have q1 : Boxed W (w.heap.size + 1) 242 (.map none) := z1.kept hs (by simp);have q2 : Boxed W (w.heap.size + 2) 4 (.bool false) := z2.kept hs (by simp);have q4 : Boxed W (w.heap.size + 4) 242 (.map (some (w.heap.size + 3))) := z4.kept hs (by simp);gi_wp2_with fail;refine ⟨⟨k + 1, _, _, _, _, _, _, _, _, _, _, _, _, _, _, _, _, _, _, _, _, _, _, _, _, _, _, ⟨hlt, ?_, ⟨D', ?_⟩, ⟨q1, q2, q4⟩, hBW.grown hs hBW.size (fun j e => by cases e; omega), by have := hs.size; omega, Marks.cons hds1 (fun j hj => ?_) (by omega) hE hK⟩, rfl⟩, ?_⟩
    ·unfold Hid; rw [keysOf_take T k hlt, <- HT.out, <- sideK_list]; exact hnn.out
    ·have e1 : ownL (T.take (k + 1)) = ownL (T.take k) ++ all3.map fun x => (sideK t x, (k : Int)) := by rw [ownL_take T k hlt, <- HT.out, <- sideK_list, List.map_map]; rfl
     unfold Hid; rw [e1]; exact hm.out
    ·exact (hs.block j (Array.getElem?_eq_some_iff.1 hj).1 (fun e => by cases e; obtain ⟨es, ck, hh, _⟩ := hm1.owns; rw [hh] at hj; cases hj)).trans hj
    ·simp [RowKit.intOf]; omega
   case stop =>
    rintro E c' pre W hE hSp ⟨⟨rfl, hnn⟩, x1, x2, hk', hzz, hbb⟩ hK;gi_wp2_with fail;refine leaves_marks (Marks.cons hds1 (fun j hj => hk' j hj) (by omega) hE hK) fun w' hw' => ?_
    have k1 := (hw'.boxed x1).cell;have k2 := (hw'.boxed x2).cell;refine ⟨.tuple #[.map none, .bool false], by simp [results, Tryz.results179, go_sem, k1, k2], ?_⟩;refine ⟨_, rfl, .inr ⟨fun hnd => hnn ?_, rfl⟩, hbb.trans ((hw'.below (by omega)).mono (by omega))⟩;refine List.Sublist.nodup ?_ hnd;have e2 : keysOf T = keysOf (T.take k) ++ (sidesOf t ++ keysOf (T.drop (k + 1))) := by
     conv => lhs; rw [<- List.take_append_drop k T, List.drop_eq_getElem_cons hlt]
     unfold keysOf;rw [List.flatMap_append, List.flatMap_cons, <- HT.out]
    rw [e2, <- sideK_list];refine List.Sublist.append_left ?_ _;refine List.Sublist.trans (List.Sublist.map _ hSp.sublist) (List.sublist_append_left _ _)
  ·have g4 := y4.cell
   have g1 := y1.cell;have g1f := y1.frozen;have g2 := y2.cell;have g2f := y2.frozen;gi_wp2_with fail;obtain rfl : k = T.length := by omega
   have hzb := hB.setCell (p := ⟨w.heap.size + 1, 0, none⟩) (by show w.heap.size <= w.heap.size + 1; omega) (.map (some (w.heap.size + 3)));have hzc := hzb.setCell (p := ⟨w.heap.size + 2, 0, none⟩) (by show w.heap.size <= w.heap.size + 2; omega) (.bool true);have hblk : ∀ j : Nat, j ≠ w.heap.size + 1 -> j ≠ w.heap.size + 2 -> ((wr.setCell ⟨w.heap.size + 1, 0, none⟩ (.map (some (w.heap.size + 3)))).setCell ⟨w.heap.size + 2, 0, none⟩ (.bool true)).heap[j]? = wr.heap[j]? := fun j h1 h2 => by
    rw [Below.heap_setCell _ _ _ j h2, Below.heap_setCell _ _ _ j h1]
   have n1 : Boxed ((wr.setCell ⟨w.heap.size + 1, 0, none⟩ (.map (some (w.heap.size + 3)))).setCell ⟨w.heap.size + 2, 0, none⟩ (.bool true)) (w.heap.size + 1) 242 (.map (some (w.heap.size + 3))) := (y1.set _).other (by omega) _;have n2 : Boxed ((wr.setCell ⟨w.heap.size + 1, 0, none⟩ (.map (some (w.heap.size + 3)))).setCell ⟨w.heap.size + 2, 0, none⟩ (.bool true)) (w.heap.size + 2) 4 (.bool true) := (y2.other (by omega) _).set _;have nM : MapL viewE 3 (Lit.int .i64) ((wr.setCell ⟨w.heap.size + 1, 0, none⟩ (.map (some (w.heap.size + 3)))).setCell ⟨w.heap.size + 2, 0, none⟩ (.bool true)) (w.heap.size + 3) (3 * T.length) D (ownL T) := by
    have := (HM.out.kept (grownBy_setCell' wr (w.heap.size + 1) (.map (some (w.heap.size + 3)))) (by simp)).kept (grownBy_setCell' _ (w.heap.size + 2) (.bool true)) (by simp);rw [List.take_length] at this;exact this
   have HNT := HN.out;rw [List.take_length] at HNT;refine leaves_marks (B := w.heap.size + 5) (hds.kept (fun j hj => ?_)) fun w' hw' => ?_
   ·rw [hblk j (by rintro rfl; rw [show wr.heap[w.heap.size + 1]? = _ from y1] at hj; cases hj) (by rintro rfl; rw [show wr.heap[w.heap.size + 2]? = _ from y2] at hj; cases hj)]
    exact hj
   ·have k1 := (hw'.boxed n1).cell
    have k2 := (hw'.boxed n2).cell;refine ⟨.tuple #[.map (some (w.heap.size + 3)), .bool true], by simp [results, Tryz.results179, go_sem, k1, k2], ?_⟩;exact ⟨_, rfl, .inl ⟨HNT, w.heap.size + 3, D, by omega, rfl, hw'.mapL nM⟩, hzc.trans ((hw'.below (by simpa using hz)).mono (by omega))⟩
theorem owners_any (w : World) (vp vt : Value) (T : List Tri) (hrd : RdT w vt T) (hlen : T.length <= 1000000) (hI : ∀ t ∈ T, InI t.1 /\ InI t.2.1 /\ InI t.2.2) :
 Calls Tryz.prog 179 #[.agg #[vp, vt]] w (Ret (OwnersP T w.heap.size) w) :=
 callsIn_wide.1 (owners_in 6 (by omega) w vp vt T hrd hlen hI)
end Go.Proofs.YtgdpoankaojklaaGreatDoor
namespace Go.Proofs.YtgdpoankaojklaaGreatDoor
open Go.RowKit Go.Lib Go.Maps
theorem chase_mem {B : List Edge} {f : Int} : ∀ (n : Nat) (a : Int) (out r : List Int), chase B f n a out = some r -> (∀ x ∈ out, x ∈ B.map (·.1)) -> (∀ x ∈ r, x ∈ B.map (·.1)) /\ r.length = out.length + n := by
 intro n
 induction n with
 | zero => intro a out r h ho; unfold chase at h; cases h; exact ⟨ho, rfl⟩
 | succ n ih =>
   intro a out r h ho;unfold chase at h;cases hx : nxtOf B a with
   | none => rw [hx] at h; cases h
   | some b =>
     rw [hx] at h;dsimp only at h;split at h
     ·cases h
     ·have ha : a ∈ B.map (·.1) := by
       cases hm : decide (a ∈ B.map (·.1)) with
       | true => exact of_decide_eq_true hm
       | false => rw [nxtOf_none.2 (of_decide_eq_false hm)] at hx; cases hx
      obtain ⟨h1, h2⟩ := ih b (out ++ [a]) r h (fun x hx => by
       rcases List.mem_append.1 hx with h | h
       ·exact ho x h
       ·simp at h; subst h; exact ha)
      exact ⟨h1, by rw [h2]; simp; omega⟩
theorem outerL_mem {E : List Edge} : (∀ x ∈ outerL E, x ∈ E.map (·.1)) /\ (outerL E).length <= E.length := by
 unfold outerL;split
 ·cases h : chase (bordOf E) (leastS (bordOf E)) (bordOf E).length (leastS (bordOf E)) [] with
  | none => simp
  | some r =>
    obtain ⟨h1, h2⟩ := chase_mem _ _ _ _ h (by simp);refine ⟨fun x hx => ?_, ?_⟩
    ·obtain ⟨s, hs, rfl⟩ := List.mem_map.1 (h1 x hx)
     exact List.mem_map.2 ⟨s, (mem_bordOf.1 hs).1, rfl⟩
    ·simp only [Option.getD_some, h2]
     have : (bordOf E).length <= E.length := List.length_filter_le _ _;simpa using this
 ·simp
theorem keysOf_length (T : List Tri) : (keysOf T).length = 3 * T.length := by
 unfold keysOf
 induction T with
 | nil => rfl
 | cons t T ih => rw [List.flatMap_cons, List.length_append, ih]; simp [sidesOf]; omega
theorem keysOf_mem {T : List Tri} {s : Edge} (h : s ∈ keysOf T) : ∃ t ∈ T, s.1 ∈ idxOf t /\ s.2 ∈ idxOf t := by
 unfold keysOf at h;obtain ⟨t, ht, hs⟩ := List.mem_flatMap.1 h;refine ⟨t, ht, ?_⟩;simp [sidesOf] at hs;rcases hs with rfl | rfl | rfl <;> simp [idxOf]
structure MeshIn (P : List PtQ) (T : List Tri) (k : Nat) : Prop where
 kpos : 0 < k
 klim : k <= 2000
 sz : ∀ p ∈ P, SzP k p
 plen : P.length <= 400
 tlen : T.length <= 800
 idx : ∀ t ∈ T, ∀ x ∈ idxOf t, 0 <= x /\ x < P.length
theorem idx_T0 (x y z : Value) (w : World) : (Instr.index 95 (.agg #[x, y, z]) (.int .i64 0)).run Tryz.prog w = .ok x w := by kernel_rfl
theorem idx_T1 (x y z : Value) (w : World) : (Instr.index 95 (.agg #[x, y, z]) (.int .i64 1)).run Tryz.prog w = .ok y w := by kernel_rfl
theorem idx_T2 (x y z : Value) (w : World) : (Instr.index 95 (.agg #[x, y, z]) (.int .i64 2)).run Tryz.prog w = .ok z w := by kernel_rfl
def usedL (T : List Tri) (k j : Nat) : List Int := (T.take k).flatMap idxOf ++ ((T[k]?.map idxOf).getD []).take j
theorem usedL_next (T : List Tri) (k : Nat) (h : k < T.length) : usedL T k 3 = usedL T (k + 1) 0 := by
 unfold usedL;rw [List.getElem?_eq_getElem h, List.take_succ_eq_append_getElem h, List.flatMap_append];simp [idxOf]
theorem usedL_step (T : List Tri) (k j : Nat) (h : k < T.length) (hj : j < 3) : usedL T k (j + 1) = usedL T k j ++ [(idxOf T[k])[j]'(by simpa [idxOf] using hj)] := by
 unfold usedL;rw [List.getElem?_eq_getElem h];simp only [Option.map_some, Option.getD_some];rw [List.take_succ_eq_append_getElem (by simpa [idxOf] using hj), List.append_assoc]
theorem usedL_all (T : List Tri) : usedL T T.length 0 = T.flatMap idxOf := by unfold usedL; simp
def UsedM (w : World) (b n : Nat) (l : List Int) : Prop := ∃ D : DataW Unit, MapL viewI 4 Lit.bool w b n D (l.map fun x => (x, true)) /\ Maps.size D = (distL l).length
theorem whole_any (w : World) (vp vt : Value) (P : List PtQ) (T : List Tri) (k : Nat) (hp : RdP w vp (strP P)) (ht : RdT w vt T) (hm : MeshIn P T k) (hg : Good w) :
 Calls Tryz.prog 139 #[.agg #[vp, vt]] w (Ret (fun r _ => r = .bool (wholeB P T)) w) := by
 have hmm := @run_makeMap Tryz.prog;have hp' := hp;have ht' := ht;obtain ⟨pp, cp, rfl, hpc, hpm, _⟩ := hp'.open;obtain ⟨pt, ct, rfl, htc, htm, htr⟩ := ht'.open;rw [strP_length] at hp hpc ⊢;have HP := hid hp;have HT := hid ht;have HM := hid hm;have HTR := hid htr;have hpl := hm.plen;have htl := hm.tlen;clear hp ht hp' ht' hm htr;have HIB : Hid (∀ t ∈ T, InI t.1 /\ InI t.2.1 /\ InI t.2.2) := fun t h => by
  have h1 := HM.out.idx t h;have a1 := h1 t.1 (by simp [idxOf]);have a2 := h1 t.2.1 (by simp [idxOf]);have a3 := h1 t.2.2 (by simp [idxOf]);exact ⟨⟨by omega, by omega⟩, ⟨by omega, by omega⟩, by omega, by omega⟩
 have hsr := World.alloc_heap_new w (.cells #[.slice pp P.length cp, .slice pt T.length ct] 37);go_enter Tryz.func139, Tryz.ntmps139;go_wp2_with fail;obtain ⟨W0, hW0⟩ : ∃ W0, W0 = w.alloc (.cells #[.slice pp P.length cp, .slice pt T.length ct] 37) := ⟨_, rfl⟩;rw [<- hW0] at hsr ⊢;have hB0 : Below w.heap.size w W0 := by rw [hW0]; exact zal _ _
 have hz0 : W0.heap.size = w.heap.size + 1 := by rw [hW0]; simp
 have y0 : W0.cell? ⟨w.heap.size, 0, none⟩ = some (.slice pp P.length cp) := by simp [World.cell?, hsr]
 have y1 : W0.cell? ⟨w.heap.size, 1, none⟩ = some (.slice pt T.length ct) := by simp [World.cell?, hsr]
 clear hW0 hsr;refine (owners_any W0 _ _ T (RdC.below HT.out hB0) (by omega) HIB.out).mono ?_;rintro e w1 ⟨_, rfl, hO, hb1⟩;have hBw : Below w.heap.size w w1 := hB0.trans (hb1.mono (by omega));have hg1 := hg.below hBw;have hz1 : W0.heap.size <= w1.heap.size := hb1.size;have x0 := zcq hb1 (by show w.heap.size < W0.heap.size; omega) y0;have x1 := zcq hb1 (by show w.heap.size < W0.heap.size; omega) y1;clear y0 y1 hb1 hB0;rcases hO with ⟨hnd, bo, D, hbo, rfl, hMO⟩ | ⟨hnd, rfl⟩
 ·have HND := hid hnd
  have HMO := hid hMO;have hbl := hMO.owns.lt;clear hnd hMO;have x1' : (w1.alloc (.map #[] 0)).cell? ⟨w.heap.size, 1, none⟩ = some (.slice pt T.length ct) := cell_alloc_l _ x1;have HWZ : Hid (w.heap.size < w1.heap.size) := by unfold Hid; omega
  go_wp2_with fail;obtain ⟨W2, hW2⟩ : ∃ W2, W2 = w1.alloc (.map #[] 0) := ⟨_, rfl⟩;have hB2 : Below w1.heap.size w1 W2 := by rw [hW2]; exact zal _ _
  have HU0 : Hid (UsedM W2 w1.heap.size 0 (usedL T 0 0)) := by
   rw [hW2];exact ⟨_, by simpa [usedL] using MapL.made (β := Bool) w1 viewI 4 Lit.bool, by simp [usedL, distL, Maps.size]⟩
  have hz2 : w1.heap.size + 1 <= W2.heap.size := by rw [hW2]; simp
  rw [<- hW2];clear hW2 x1';go_loopw [23] (fun t23 wr => ∃ m : Nat, m <= T.length /\ t23 = .int .i64 (m : Int) /\ Hid (UsedM wr w1.heap.size (3 * m) (usedL T m 0)) /\ Below w1.heap.size w1 wr /\ w1.heap.size + 1 <= wr.heap.size) (fun t23 _ => T.length - (RowKit.intOf t23).toNat)
  case atStart => exact ⟨0, Nat.zero_le _, rfl, HU0, hB2, hz2⟩
  case round =>
   obtain ⟨m, hm, rfl, HU, hB, hz⟩ := hrel;clear HU0 hB2 hz2;rcases Nat.lt_or_ge m T.length with hlt | hge
   ·obtain ⟨b, off, rfl, hbt, hcell⟩ := HTR.out (List.ne_nil_of_length_pos (by omega))
    obtain ⟨e0, e1, e2⟩ := hcell m hlt;have hBwr : Below w.heap.size w wr := hBw.trans (hB.mono (by have := HWZ.out; omega));have d0 := zcq hBwr hbt e0;have d1 := zcq hBwr hbt e1;have d2 := zcq hBwr hbt e2;obtain ⟨t, ht⟩ : ∃ t, t = T[m] := ⟨_, rfl⟩;rw [<- ht] at d0 d1 d2;have HTT := hid ht;have hltz : (m : Int) < (T.length : Int) := by omega
    clear hcell e0 e1 e2 ht hBwr;have i0 := idx_T0;have i1 := idx_T1;have i2 := idx_T2;go_wp2_with fail;obtain ⟨wo, hwo⟩ : ∃ wo : World, wo = wr := ⟨_, rfl⟩;subst hwo;obtain ⟨W3, hW3⟩ : ∃ W3, W3 = wo.alloc (.cells #[.int .i64 t.1, .int .i64 t.2.1, .int .i64 t.2.2] 95) := ⟨_, rfl⟩;have HU3 : Hid (UsedM W3 w1.heap.size (3 * m + 0) (usedL T m 0)) := by
     obtain ⟨D2, h1, h2⟩ := HU.out;rw [hW3];exact ⟨D2, h1.kept (World.grownBy_alloc _ _ none) (by simp), h2⟩
    have hB3 : Below w1.heap.size w1 W3 := by rw [hW3]; exact hB.alloc (by omega) _
    have hz3 : w1.heap.size + 1 <= W3.heap.size := by rw [hW3]; simp; omega
    rw [<- hW3];clear hW3 HU hB hz d0 d1 d2;go_loopw [28] (fun t28 wr => ∃ j : Nat, j <= 3 /\ t28 = .int .i64 (j : Int) /\ Hid (UsedM wr w1.heap.size (3 * m + j) (usedL T m j)) /\ Below w1.heap.size w1 wr /\ w1.heap.size + 1 <= wr.heap.size) (fun t28 _ => 3 - (RowKit.intOf t28).toNat)
    case atStart => exact ⟨0, Nat.zero_le _, rfl, HU3, hB3, hz3⟩
    case round =>
     obtain ⟨j, hj, rfl, ⟨D2, hD2, hS2⟩, hB, hz⟩ := hrel;clear HU3 hB3 hz3;have HD2 := hid hD2;have HS2 := hid hS2;clear hD2 hS2;rcases Nat.lt_or_ge j 3 with hj3 | hj3
     ·obtain ⟨x, hx⟩ : ∃ x, x = (idxOf t)[j]'(by simpa [idxOf] using hj3) := ⟨_, rfl⟩
      have hxI : InI x := by
       obtain ⟨a1, a2, a3⟩ := HIB.out t (by rw [HTT.out]; exact List.getElem_mem hlt);rcases (by omega : j = 0 \/ j = 1 \/ j = 2) with rfl | rfl | rfl <;> (subst hx; assumption)
      have HST : Hid (usedL T m (j + 1) = usedL T m j ++ [x]) := by
       unfold Hid;rw [usedL_step T m j hlt hj3, hx];simp only [HTT.out]
      have HKX : Hid (keyOf Tryz.prog 3 (.int .i64 x) = some (kI x)) := keyI hxI;have HIX : Hid ((Instr.index 95 (.agg #[.int .i64 t.1, .int .i64 t.2.1, .int .i64 t.2.2]) (.int .i64 (j : Int))).run Tryz.prog wr = .ok (.int .i64 x) wr) := by
       rcases (by omega : j = 0 \/ j = 1 \/ j = 2) with rfl | rfl | rfl
       ·subst hx; exact idx_T0 _ _ _ _
       ·subst hx; exact idx_T1 _ _ _ _
       ·subst hx; exact idx_T2 _ _ _ _
      have hix := HIX.out;have hj3z : (j : Int) < 3 := by omega
      clear hx HIX i0 i1 i2;go_wp2_with (at_mapUpdate; refine wpList_mapUpdate_own _ rfl _ _ _ 245 rfl 3 4 lawI und_IB _ w1.heap.size (3 * m + j) D2 rfl HD2.out.owns (by unfold maxLen; omega) _ _ _ rfl rfl HKX.out _ [] (plainElem_bool und_B true) ?_; intro w2 hown2 hgrow2);go_roundw
      case rel =>
       refine ⟨j + 1, hj3, by go_num, ⟨D2.put (kI x) (.lit (.bool true)), ?_, ?_⟩, hB.grown hgrow2 (by omega) (fun i e => by cases e; omega), by have := hgrow2.size; omega⟩
       ·have := HD2.out.put (V := viewI) (s := x) (i := true) hxI (fun i hi => by
         simp at hi; obtain ⟨_, _, _, e⟩ := hi; rw [e]) hown2
        rw [HST.out, List.map_append];exact this
       ·have := HD2.out.size_put (V := viewI) (s := x) hxI (.lit (.bool true)) (by rw [HS2.out, List.map_map]; simp [Function.comp_def])
        rw [HST.out];rw [List.map_map] at this;show Maps.size (D2.put (viewI.lit x) (.lit (.bool true))) = _;simpa [Function.comp_def] using this
      case measure => simp [RowKit.intOf]; omega
     ·obtain rfl : j = 3 := by omega
      go_wp2_with fail;go_roundw
      case rel => exact ⟨m + 1, by omega, by go_num, ⟨D2, by rw [<- usedL_next T m hlt]; exact HD2.out, by rw [<- usedL_next T m hlt]; exact HS2.out⟩, hB, hz⟩
      case measure => simp [RowKit.intOf]; omega
   ·obtain rfl : m = T.length := by omega
    obtain ⟨D2, hD2, hS2⟩ := HU.out;rw [usedL_all] at hD2 hS2;have hlen2 := hD2.owns.len und_IB 3;rw [hS2] at hlen2;have HD2 := hid hD2;have hMr : MapL viewE 3 (Lit.int .i64) wr bo (3 * T.length) D (ownL T) := HMO.out.below hB hbl;have hgw : Good wr := hg1.below hB;have x0r := zcq hB (by show w.heap.size < w1.heap.size; have := HWZ.out; omega) x0;have x1r := zcq hB (by show w.heap.size < w1.heap.size; have := HWZ.out; omega) x1;have hBr : Below w.heap.size w wr := hBw.trans (hB.mono (by have := HWZ.out; omega));have HMR := hid hMr;have hun : (usedN T : Int) = ((distL (T.flatMap idxOf)).length : Int) := rfl;obtain ⟨un, hune⟩ : ∃ un, un = (distL (T.flatMap idxOf)).length := ⟨_, rfl⟩;rw [<- hune] at hlen2;have HUN : Hid (un = usedN T) := hune;clear HU hD2 hS2 hMr x0 x1 hun hune;have HEK : Hid (∀ s ∈ (ownL T).map (·.1), (0 <= s.1 /\ s.1 < 1000000) /\ (0 <= s.2 /\ s.2 < 1000000)) := fun s hs => by
     rw [ownL_keys] at hs;obtain ⟨t, ht, h1, h2⟩ := keysOf_mem hs;have a1 := HM.out.idx t ht _ h1;have a2 := HM.out.idx t ht _ h2;omega
    go_wp2_with fail;refine (outer_any wr _ _ bo (3 * T.length) D (ownL T) HMR.out (by rw [ownL_keys]; exact HND.out) (by omega) (by
     have := congrArg List.length (ownL_keys T); rw [List.length_map, keysOf_length] at this; omega) HEK.out).mono ?_
    rintro e w5 ⟨_, rfl, ⟨sv, rfl, hrs, _⟩, hb5⟩;rw [ownL_keys] at hrs ⊢;have hrs' := hrs;obtain ⟨ps, cs, rfl, _, _, _⟩ := hrs'.open;clear hrs';have x0s := zcq hb5 (World.block_lt_of_cell? wr _ x0r) x0r;have x1s := zcq hb5 (World.block_lt_of_cell? wr _ x1r) x1r;have hgs : Good w5 := hgw.below hb5;have hB5 : Below w.heap.size w w5 := hBr.trans (hb5.mono hBr.size);have hD5 : MapL viewI 4 Lit.bool w5 w1.heap.size (3 * T.length) D2 _ := HD2.out.below hb5 HD2.out.owns.lt;have hlen5 := hD5.owns.len und_IB 3;have e5 : Maps.size D2 = un := by
     have h := hlen2.symm.trans (HD2.out.owns.len und_IB 3);simp at h;exact (Int.ofNat_inj.1 h).symm
    rw [e5] at hlen5;have HRS := hid hrs;clear hlen2 x0r x1r hb5 hD5 e5 hrs hB HD2 HMR;cases hemp : (outerL (keysOf T)).isEmpty
    ·rcases (by omega : un = P.length \/ ¬ un = P.length) with hu | hu
     ·have huz : ((un : Int) == (P.length : Int)) = true := by rw [beq_iff_eq]; omega
      have HHO : Hid (OnceOK P (outerL (keysOf T)) k) := by
       obtain ⟨m1, m2⟩ := outerL_mem (E := keysOf T);rw [keysOf_length] at m2;refine ⟨?_, by omega, by omega, fun x hx => ?_, HM.out.kpos, HM.out.klim, HM.out.sz⟩
       ·refine List.length_pos_iff.2 fun e => ?_
        rw [e] at hemp; cases hemp
       ·obtain ⟨s, hs, rfl⟩ := List.mem_map.1 (m1 x hx)
        obtain ⟨t, ht, h1, _⟩ := keysOf_mem hs;exact HM.out.idx t ht _ h1
      have HR : Hid (onceB P (outerL (keysOf T)) = wholeB P T) := by
       unfold Hid wholeB;rw [decide_eq_true HND.out, hemp, decide_eq_true (by rw [<- HUN.out]; exact hu)]; rfl
      have HEMP := hid hemp;clear hemp;go_wp2_with fail;refine (once_any w5 _ _ _ P (outerL (keysOf T)) k (RdC.below HP.out hB5) HRS.out HHO.out hgs).mono ?_;rintro e w6 ⟨_, rfl, rfl, hb6⟩;rw [HR.out];go_wp2_with fail;go_ret;exact ⟨_, rfl, rfl, hB5.trans (hb6.mono hB5.size)⟩
     ·have huz : ((un : Int) == (P.length : Int)) = false := by rw [beq_eq_false_iff_ne]; omega
      have HR : Hid (false = wholeB P T) := by
       unfold Hid wholeB;rw [decide_eq_false (p := usedN T = P.length) (by rw [<- HUN.out]; exact hu)]; simp
      have HEMP := hid hemp;clear hemp;go_wp2_with fail;go_ret;exact ⟨_, rfl, congrArg Value.bool HR.out, hB5⟩
    ·have HR : Hid (false = wholeB P T) := by unfold Hid wholeB; rw [hemp]; simp
     clear hemp;go_wp2_with fail;go_ret;exact ⟨_, rfl, congrArg Value.bool HR.out, hB5⟩
 ·have HR : Hid (false = wholeB P T) := by unfold Hid wholeB; rw [decide_eq_false hnd]; rfl
  clear hnd;go_wp2_with fail;go_ret;exact ⟨_, rfl, congrArg Value.bool HR.out, hBw⟩
structure MeshOK (P : List PtQ) (T : List Tri) (k : Nat) : Prop extends MeshIn P T k where
 klim2 : k <= 200
 some : T ≠ []
 apart : P.Nodup
 turns : ∀ t ∈ T, 0 < turnZ (P[t.1.toNat]?.getD (0, 0)) (P[t.2.1.toNat]?.getD (0, 0)) (P[t.2.2.toNat]?.getD (0, 0))
 whole : wholeB P T = true
theorem SzP.right {k : Nat} {p : PtQ} (h : SzP k p) (hk : k <= 200) : errNum (allQ [RS p.1, RS p.2]) = 0 := by
 unfold allQ;simp only [List.all_cons, List.all_nil, Bool.and_true];rw [RS_list, RS_list, rightQ_RL (h.1.mono hk), rightQ_RL (h.2.mono hk)];rfl
theorem SzP.inS {k : Nat} {p : PtQ} (h : SzP k p) (hk : 0 < k) (hk2 : k <= 200) : InS (RS p.1, RS p.2) := by
 have h1 := h.1.size hk;have h2 := h.2.size hk;constructor
 ·show (RS p.1).size <= maxLen
  unfold maxLen; omega
 ·show (RS p.2).size <= maxLen
  unfold maxLen; omega
theorem strP_get (P : List PtQ) (i : Nat) (h : i < P.length) : (strP P)[i]'(by rw [strP_length]; exact h) = (RS P[i].1, RS P[i].2) := by simp [strP]
theorem strP_inj {p q : PtQ} (h : (RS p.1, RS p.2) = (RS q.1, RS q.2)) : p = q := by
 simp at h;exact Prod.ext (RS_inj h.1) (RS_inj h.2)
theorem check_any (w : World) (vp vt : Value) (P : List PtQ) (T : List Tri) (k : Nat) (hp : RdP w vp (strP P)) (ht : RdT w vt T) (hm : MeshOK P T k) (hg : Good w) :
 Calls Tryz.prog 93 #[.agg #[vp, vt]] w (Ret (fun r _ => r = .int .i64 0) w) := by
 have hmm := @run_makeMap Tryz.prog;have hp' := hp;have ht' := ht;obtain ⟨pp, cp, rfl, hpc, hpm, hpr⟩ := hp'.open;obtain ⟨pt, ct, rfl, htc, htm, htr⟩ := ht'.open;rw [strP_length] at hp hpc ⊢;have HP := hid hp;have HT := hid ht;have HM := hid hm;have HPR := hid hpr;have HTR := hid htr;have hpl := hm.plen;have htl := hm.tlen;have htp : 0 < T.length := List.length_pos_iff.2 hm.some;have t1 : ((T.length : Int) == 0) = false := by rw [beq_eq_false_iff_ne]; omega
 have t2 : decide (800 < (T.length : Int)) = false := decide_eq_false (by omega);have t3 : decide (400 < (P.length : Int)) = false := decide_eq_false (by omega);clear hp ht hp' ht' hm htr hpr;go_enter Tryz.func93, Tryz.ntmps93;go_wp2_with fail;obtain ⟨W0, hW0⟩ : ∃ W0, W0 = (w.alloc (.cells #[.slice pp P.length cp, .slice pt T.length ct] 37)).alloc (.map #[] 0) := ⟨_, rfl⟩;have hB0 : Below w.heap.size w W0 := by rw [hW0]; exact zal2 _ _ _
 have hz0 : w.heap.size + 2 <= W0.heap.size := by rw [hW0]; simp
 have y0 : W0.cell? ⟨w.heap.size, 0, none⟩ = some (.slice pp P.length cp) := by rw [hW0]; exact cell_alloc_l _ (by rw [World.cell?_alloc_at _ _ _ _ rfl]; rfl)
 have y1 : W0.cell? ⟨w.heap.size, 1, none⟩ = some (.slice pt T.length ct) := by rw [hW0]; exact cell_alloc_l _ (by rw [World.cell?_alloc_at _ _ _ _ rfl]; rfl)
 have hm0 : MapL (β := Bool) viewP 4 Lit.bool W0 (w.heap.size + 1) 0 (.map []) [] := by
  rw [hW0];have := MapL.made (β := Bool) (w.alloc (.cells #[.slice pp P.length cp, .slice pt T.length ct] 37)) viewP 4 Lit.bool;simpa using this
 rw [<- hW0];clear hW0 t1 t2 t3;go_loopw [32] (fun t32 wr => ∃ (m : Nat) (D : DataW Unit), m <= P.length /\ t32 = .int .i64 (m : Int) /\ Hid (MapL viewP 4 Lit.bool wr (w.heap.size + 1) m D (((strP P).take m).map fun x => (x, true))) /\ Below w.heap.size w wr /\ w.heap.size + 2 <= wr.heap.size /\
  (wr.cell? ⟨w.heap.size, 0, none⟩ = some (.slice pp P.length cp) /\ wr.cell? ⟨w.heap.size, 1, none⟩ = some (.slice pt T.length ct))) (fun t32 _ => P.length - (RowKit.intOf t32).toNat)
 case atStart => exact ⟨0, _, Nat.zero_le _, rfl, hid (by simpa using hm0), hB0, hz0, y0, y1⟩
 case round =>
  obtain ⟨m, D, hm, rfl, HD, hB, hz, x0, x1⟩ := hrel;clear hm0 hB0 hz0 y0 y1;rcases Nat.lt_or_ge m P.length with hlt | hge
  ·obtain ⟨b, off, rfl, hbt, hcell⟩ := HPR.out (by intro e; have h := strP_length P; rw [e] at h; simp at h; omega)
   obtain ⟨e0, e1⟩ := hcell m (by rw [strP_length]; exact hlt);rw [strP_get P m hlt] at e0 e1;obtain ⟨p, hpm⟩ : ∃ p, p = P[m] := ⟨_, rfl⟩;rw [<- hpm] at e0 e1;dsimp only at e0 e1;have d0 := zcq hB hbt e0;have d1 := zcq hB hbt e1;have hsp : SzP k p := by rw [hpm]; exact HM.out.sz _ (List.getElem_mem hlt)
   have hin := hsp.inS HM.out.kpos HM.out.klim2;have HIN := hid hin;have HKX : Hid (keyOf Tryz.prog 63 (.agg #[.string (RS p.1), .string (RS p.2)]) = some (kP (RS p.1, RS p.2))) := keyP hin.1 hin.2;have HER := hid (hsp.right HM.out.klim2);have hsb1 := hsp.1.size HM.out.kpos;have hsb2 := hsp.2.size HM.out.kpos;have hk2 := HM.out.klim2;have HST : Hid ((strP P).take (m + 1) = (strP P).take m ++ [(RS p.1, RS p.2)]) := by
    unfold Hid;rw [List.take_succ_eq_append_getElem (by rw [strP_length]; exact hlt), strP_get P m hlt, hpm]
   have HNW : Hid ((RS p.1, RS p.2) ∉ (((strP P).take m).map fun x => (x, true)).map (·.1)) := fun hmm' => by
    rw [List.map_map] at hmm';have hmm2 : (RS p.1, RS p.2) ∈ (strP P).take m := by simpa [Function.comp_def] using hmm'
    obtain ⟨i, hi, he⟩ := List.getElem_of_mem hmm2;rw [List.length_take, strP_length] at hi;rw [List.getElem_take, strP_get P i (by omega)] at he;have := strP_inj he;rw [hpm] at this;have := (List.getElem_inj HM.out.apart).1 this;omega
   have hltz : (m : Int) < (P.length : Int) := by omega
   clear hcell e0 e1 hpm hin hsp;go_wp2_with fail;obtain ⟨W3, hW3⟩ : ∃ W3, W3 = wr.alloc (.cells #[.string (RS p.1), .string (RS p.2)] 63) := ⟨_, rfl⟩;have hg3 : Good W3 := by rw [hW3]; exact (hg.below hB).alloc _
   have hB3 : Below wr.heap.size wr W3 := by rw [hW3]; exact zal _ _
   have hz3 : wr.heap.size < W3.heap.size := by rw [hW3]; simp
   have r0 : W3.heap[wr.heap.size]? = some (.cells #[.string (RS p.1), .string (RS p.2)] 63) := by rw [hW3]; exact World.alloc_heap_new _ _
   rw [<- hW3];clear hW3 d0 d1;refine (checkPoint_any (RS p.1) (RS p.2) (by omega) (by omega) W3 hg3).mono ?_;rintro e w4 ⟨_, rfl, rfl, hb4⟩;rw [HER.out];have hb5 : Below wr.heap.size wr w4 := hB3.trans (hb4.mono hB3.size);have r4 := (hb4.block _ hz3).trans r0;have c0 : w4.cell? ⟨wr.heap.size, 0, none⟩ = some (.string (RS p.1)) := by simp [World.cell?, r4]
   have c1 : w4.cell? ⟨wr.heap.size, 1, none⟩ = some (.string (RS p.2)) := by simp [World.cell?, r4]
   have hM4 : MapL viewP 4 Lit.bool w4 (w.heap.size + 1) m D (((strP P).take m).map fun x => (x, true)) := HD.out.below hb5 (by omega);have HM4 := hid hM4;have z0 := zcq hb5 (by show w.heap.size < wr.heap.size; omega) x0;have z1 := zcq hb5 (by show w.heap.size < wr.heap.size; omega) x1;have hB4 : Below w.heap.size w w4 := hB.trans (hb5.mono hB.size);have hz4 := hb5.size;clear r0 r4 hb4 hM4 hb5 hB3 hz3 x0 x1 HD hB hg3;go_wp2_with (first
    | (at_lookup; refine wpList_lookup_own_bool _ rfl _ _ 202 rfl 63 4 lawP und_PB und_B (zeroB _) (w.heap.size + 1) m D rfl HM4.out.owns _ _ rfl HKX.out ?_; intro cz hat
       obtain rfl : cz = false := by
        have h1 := hat.symm.trans (HM4.out.not_at (V := viewP) HIN.out HNW.out _);simp at h1;exact h1
       clear hat)
    | (at_mapUpdate; refine wpList_mapUpdate_own _ rfl _ _ _ 202 rfl 63 4 lawP und_PB _ (w.heap.size + 1) m D rfl HM4.out.owns (by unfold maxLen; omega) _ _ _ rfl rfl HKX.out _ [] (plainElem_bool und_B true) ?_; intro w5 hown5 hgrow5))
   go_roundw
   case rel =>
    refine ⟨m + 1, D.put (kP (RS p.1, RS p.2)) (.lit (.bool true)), hlt, by go_num, ?_, hB4.grown hgrow5 (by omega) (fun i e => by cases e; omega), by have := hgrow5.size; omega, ?_, ?_⟩
    ·have := HM4.out.put (V := viewP) (s := (RS p.1, RS p.2)) (i := true) HIN.out (fun i hi => absurd (List.mem_map.2 ⟨_, hi, rfl⟩) HNW.out) hown5
     unfold Hid;rw [HST.out, List.map_append];exact this
    ·exact (World.cell?_of_block (a := ⟨w.heap.size, 0, none⟩) (hgrow5.block _ (by show w.heap.size < w4.heap.size; omega) (by simp))).trans z0
    ·exact (World.cell?_of_block (a := ⟨w.heap.size, 1, none⟩) (hgrow5.block _ (by show w.heap.size < w4.heap.size; omega) (by simp))).trans z1
   case measure => simp [RowKit.intOf]; omega
  ·obtain rfl : m = P.length := by omega
   have hgw := hg.below hB;have HB := hid hB;clear hm HD hge hB;go_wp2_with fail;obtain ⟨wo, hwo⟩ : ∃ wo : World, wo = wr := ⟨_, rfl⟩;subst hwo;go_loopw [48] (fun t48 wr => ∃ m : Nat, m <= T.length /\ t48 = .int .i64 (m : Int) /\ Below wo.heap.size wo wr) (fun t48 _ => T.length - (RowKit.intOf t48).toNat)
   case atStart => exact ⟨0, Nat.zero_le _, rfl, Below.refl _ _⟩
   case round =>
    obtain ⟨m, hm, rfl, hB⟩ := hrel;have hzr := hB.size;have z0 := zcq hB (by show w.heap.size < wo.heap.size; omega) x0;have z1 := zcq hB (by show w.heap.size < wo.heap.size; omega) x1;rcases Nat.lt_or_ge m T.length with hlt | hge
    ·obtain ⟨b, off, rfl, hbt, hcell⟩ := HTR.out (List.ne_nil_of_length_pos (by omega))
     obtain ⟨e0, e1, e2⟩ := hcell m hlt;have hbo : b < wo.heap.size := Nat.lt_of_lt_of_le hbt HB.out.size;have d0 := zcq hB hbo ((zcq HB.out hbt e0 :));have d1 := zcq hB hbo ((zcq HB.out hbt e1 :));have d2 := zcq hB hbo ((zcq HB.out hbt e2 :));have hidx := HM.out.idx T[m] (List.getElem_mem hlt);have htu := HM.out.turns T[m] (List.getElem_mem hlt);obtain ⟨⟨q0z, q1z, q2z⟩, hte⟩ : ∃ t, t = T[m] := ⟨_, rfl⟩;rw [<- hte] at d0 d1 d2 hidx htu;dsimp only at d0 d1 d2 htu;obtain ⟨a00, a01⟩ := hidx q0z (by simp [idxOf]);obtain ⟨a10, a11⟩ := hidx q1z (by simp [idxOf]);obtain ⟨a20, a21⟩ := hidx q2z (by simp [idxOf]);obtain ⟨q0, rfl⟩ : ∃ q : Nat, q0z = (q : Int) := ⟨q0z.toNat, by omega⟩;obtain ⟨q1, rfl⟩ : ∃ q : Nat, q1z = (q : Int) := ⟨q1z.toNat, by omega⟩;obtain ⟨q2, rfl⟩ : ∃ q : Nat, q2z = (q : Int) := ⟨q2z.toNat, by omega⟩;simp only [Int.toNat_natCast] at htu;have g0 : q0 < P.length := by omega
     have g1 : q1 < P.length := by omega
     have g2 : q2 < P.length := by omega
     rw [List.getElem?_eq_getElem g0, List.getElem?_eq_getElem g1, List.getElem?_eq_getElem g2] at htu;simp only [Option.getD_some] at htu;obtain ⟨bp, op, rfl, hbp, hpc'⟩ := HPR.out (by intro e; have h := strP_length P; rw [e] at h; simp at h; omega);have hbpo : bp < wo.heap.size := Nat.lt_of_lt_of_le hbp HB.out.size;have pc : ∀ i, (h : i < P.length) -> wr.cell? ⟨bp, op + i * 2, none⟩ = some (.string (RS P[i].1)) /\ wr.cell? ⟨bp, op + i * 2 + 1, none⟩ = some (.string (RS P[i].2)) := fun i h => by
      obtain ⟨h1, h2⟩ := hpc' i (by rw [strP_length]; exact h);rw [strP_get P i h] at h1 h2;exact ⟨(zcq hB hbpo ((zcq HB.out hbp h1 :)) :), (zcq hB hbpo ((zcq HB.out hbp h2 :)) :)⟩
     obtain ⟨k00, k01⟩ := pc q0 g0;obtain ⟨k10, k11⟩ := pc q1 g1;obtain ⟨k20, k21⟩ := pc q2 g2;have s0 := HM.out.sz _ (List.getElem_mem g0);have s1 := HM.out.sz _ (List.getElem_mem g1);have s2 := HM.out.sz _ (List.getElem_mem g2);generalize P[q0] = p0 at *;generalize P[q1] = p1 at *;generalize P[q2] = p2 at *;have HS0 := hid s0;have HS1 := hid s1;have HS2 := hid s2;have hkp := HM.out.kpos;have hkl := HM.out.klim;have hltz : (m : Int) < (T.length : Int) := by omega
     have f0 : (q0 : Int) < (P.length : Int) := by omega
     have f1 : (q1 : Int) < (P.length : Int) := by omega
     have f2 : (q2 : Int) < (P.length : Int) := by omega
     clear hcell e0 e1 e2 hte hidx pc hpc' s0 s1 s2 a00 a01 a10 a11 a20 a21 x0 x1;go_wp2_with fail;obtain ⟨W5, hW5⟩ : ∃ W5, W5 = wr.alloc (.cells #[.int .i64 q0, .int .i64 q1, .int .i64 q2] 95) := ⟨_, rfl⟩;have r5 : W5.heap[wr.heap.size]? = some (.cells #[.int .i64 q0, .int .i64 q1, .int .i64 q2] 95) := by rw [hW5]; exact World.alloc_heap_new _ _
     have hB5 : Below wr.heap.size wr W5 := by rw [hW5]; exact zal _ _
     rw [<- hW5];have c50 : W5.cell? ⟨wr.heap.size, 0, none⟩ = some (.int .i64 q0) := by simp [World.cell?, r5]
     have c51 : W5.cell? ⟨wr.heap.size, 1, none⟩ = some (.int .i64 q1) := by simp [World.cell?, r5]
     have c52 : W5.cell? ⟨wr.heap.size, 2, none⟩ = some (.int .i64 q2) := by simp [World.cell?, r5]
     have v0 := zcq hB5 (by show w.heap.size < wr.heap.size; omega) z0;have hbpr : bp < wr.heap.size := Nat.lt_of_lt_of_le hbpo hzr;have v00 := zcq hB5 hbpr k00;have v01 := zcq hB5 hbpr k01;have v10 := zcq hB5 hbpr k10;have v11 := zcq hB5 hbpr k11;have v20 := zcq hB5 hbpr k20;have v21 := zcq hB5 hbpr k21;have hg5 : Good W5.drew := ((hgw.below hB).below hB5).drewN 1;have hBz : Below wo.heap.size wo W5 := hB.trans (hB5.mono hzr);clear hW5 r5 d0 d1 d2 k00 k01 k10 k11 k20 k21 hB5 z0 z1;have i0 := idx_T0;have i1 := idx_T1;have i2 := idx_T2;go_loop [53] (fun t53 => ∃ j : Nat, j <= 3 /\ t53 = .int .i64 (j : Int)) (fun t53 => 3 - (RowKit.intOf t53).toNat)
     case atStart => exact ⟨0, Nat.zero_le _, rfl⟩
     case round =>
      obtain ⟨j, hj, rfl⟩ := hrel;rcases (by omega : j = 0 \/ j = 1 \/ j = 2 \/ j = 3) with rfl | rfl | rfl | rfl
      ·go_wp2_with fail
       go_round
       case rel => exact ⟨1, by omega, rfl⟩
       case measure => simp [RowKit.intOf]
      ·go_wp2_with fail
       go_round
       case rel => exact ⟨2, by omega, rfl⟩
       case measure => simp [RowKit.intOf]
      ·go_wp2_with fail
       go_round
       case rel => exact ⟨3, by omega, rfl⟩
       case measure => simp [RowKit.intOf]
      ·clear i0 i1 i2
       go_wp2_with fail
       go_still_tail 18, (by kernel_rfl)
       change wpList _ _ _ _ _ W5.drew;go_wp2_with fail;refine (turn_any p0 p1 p2 k hkp hkl HS0.out HS1.out HS2.out W5.drew hg5).mono ?_;rintro e w7 ⟨_, rfl, rfl, hb7⟩;have hB7 : Below wo.heap.size wo w7 := hBz.trans (((below_drewN W5 1).trans hb7).mono hBz.size);generalize turnZ p0 p1 p2 = tz at *;have htz : ¬ tz <= 0 := by omega
       clear hb7 v0 v00 v01 v10 v11 v20 v21 c50 c51 c52;go_wp2_with fail;go_roundw
       case rel => exact ⟨m + 1, by omega, by go_num, hB7⟩
       case measure => simp [RowKit.intOf]; omega
    ·obtain rfl : m = T.length := by omega
     clear x0 x1;go_wp2_with fail;refine (whole_any _ _ _ P T k (RdC.below (RdC.below HP.out HB.out) hB) (RdC.below (RdC.below HT.out HB.out) hB) HM.out.toMeshIn (hgw.below hB)).mono ?_;rintro e w6 ⟨_, rfl, rfl, hb6⟩;rw [HM.out.whole];go_wp2_with fail;go_ret;exact ⟨_, rfl, rfl, (HB.out.trans (hB.mono HB.out.size)).trans (hb6.mono (by have := HB.out.size; omega))⟩
end Go.Proofs.YtgdpoankaojklaaGreatDoor
