import Derived.Test.YtmcbeajdloaliaaGreatDoorUG3
import Derived.StillTailTactics
import Derived.Laws.EntriesVeiled
/- Mesh -/
set_option maxHeartbeats 4000000
set_option maxRecDepth 100000
namespace Go.Proofs.YtmcbeajdloaliaaGreatDoor
open Go.RowKit Go.Lib
def strP (P : List PtQ) : List PtS := P.map fun p => (RS p.1, RS p.2)
theorem sPl (P : List PtQ) : (strP P).length = P.length := by simp [strP]
structure OnceEnv (W : World) (bm bc bn : Nat) (P : List PtQ) (c : List Int) : Prop where
 pts : ∃ vp, W.cell? ⟨bm, 0, none⟩ = some vp /\ RdP W vp (strP P)
 cyc : ∃ vc, W.cell? ⟨bc, 0, none⟩ = some vc /\ RdI .i64 W vc c
 num : W.cell? ⟨bn, 0, none⟩ = some (.int .i64 c.length)
theorem OnceEnv.below {W W' : World} {bm bc bn : Nat} {P : List PtQ} {c : List Int} (h : OnceEnv W bm bc bn P c) (Z : Below W.heap.size W W') : OnceEnv W' bm bc bn P c := by
 obtain ⟨⟨Q, Y, U⟩, ⟨R, X, S⟩, V⟩ := h;exact ⟨⟨Q, (zcq Z (World.block_lt_of_cell? W _ Y) Y :), RdC.below U Z⟩, ⟨R, (zcq Z (World.block_lt_of_cell? W _ X) X :), RdC.below S Z⟩, (zcq Z (World.block_lt_of_cell? W _ V) V :)⟩
structure OnceOK (P : List PtQ) (c : List Int) (k : Nat) : Prop where
 pos : 0 < c.length
 len : c.length <= 1000000
 plen : P.length <= 1000000
 idx : ∀ x ∈ c, 0 <= x /\ x < P.length
 kpos : 0 < k
 klim : k <= 2000
 sz : ∀ p ∈ P, SzP k p
theorem OnceOK.at {P : List PtQ} {c : List Int} {k : Nat} (h : OnceOK P c k) (i : Nat) : ∃ (j m : Nat) (Z : j < c.length) (Y : m < P.length), i % c.length = j /\ c[j] = (m : Int) /\ ptAt P c i = P[m] := by
 have Z : i % c.length < c.length := Nat.mod_lt _ h.pos;have hx := h.idx _ (List.getElem_mem Z);refine ⟨i % c.length, (c[i % c.length]).toNat, Z, by omega, rfl, by omega, ?_⟩;unfold ptAt;rw [List.getElem?_eq_getElem Z, Option.getD_some, List.getElem?_eq_getElem (by omega), Option.getD_some]
theorem OnceOK.szAt {P : List PtQ} {c : List Int} {k : Nat} (h : OnceOK P c k) (i : Nat) : SzP k (ptAt P c i) := by
 obtain ⟨j, m, Y, Z, _, _, e⟩ := h.at i;rw [e]; exact h.sz _ (List.getElem_mem Z)
theorem pa0 (W : World) (q s o : Nat) (P : List PtQ) (c : List Int) (k : Nat) (he : OnceEnv W q s o P c) (K : OnceOK P c k) (i : Nat) (Q : Int) (U : Q = (i : Int)) (hi : i <= 4000000) :
 Calls Tryz.prog 182 #[.int .i64 Q, .pointer (some ⟨q, 0, none⟩), .pointer (some ⟨s, 0, none⟩), .pointer (some ⟨o, 0, none⟩)] W (Ret (fun r _ => r = .agg #[.string (RS (ptAt P c i).1), .string (RS (ptAt P c i).2)]) W) := by
 obtain ⟨j, m, G, f, H, l, g⟩ := K.at i;obtain ⟨⟨vp, c1, E⟩, ⟨vc, c2, D⟩, I⟩ := he;obtain ⟨p1, q1, rfl, a1, a2, x⟩ := E.open;obtain ⟨p2, q2, rfl, b1, b2, t⟩ := D.open;rw [sPl] at a1 c1;obtain ⟨g1, o1, rfl, L, N⟩ := x (by intro e; have h := sPl P; rw [e] at h; simp at h; omega);obtain ⟨g2, o2, rfl, z, M⟩ := t (by intro e; rw [e] at G; simp at G);obtain ⟨S, R⟩ := N m (by rw [sPl]; exact f);have C := M j G;rw [l] at C;rw [show (strP P)[m]'(by rw [sPl]; exact f) = (RS P[m].1, RS P[m].2) by simp [strP]] at S R;dsimp only at S R;rw [<- show ptAt P c i = P[m] from g] at S R;have h7 := K.plen;have B := K.len;have A := K.pos;obtain ⟨n, d⟩ := zex (c.length);rw [<- d] at H c2 I B A G b1;have a : Q.tmod (n : Int) = (j : Int) := by rw [U, <- H]; exact (Int.ofNat_tmod i n).symm
 have y : Q % (n : Int) = (j : Int) := by rw [U, <- H]; exact (Int.natCast_emod i n).symm
 have h6 : n ≠ 0 := by omega
 have b : ((n : Int) == 0) = false := by rw [beq_eq_false_iff_ne]; omega
 have h8 : IntKind.i64.wrap (j : Int) = (j : Int) := IntWalk.i64_in _ (by omega);obtain ⟨X, J⟩ := zex (ptAt P c i);rw [<- J] at S R ⊢;have h3 : (j : Int) < (n : Int) := by omega
 have h4 : (m : Int) < (P.length : Int) := by omega
 have h1 : 0 <= Q := by omega
 have h2 : Q <= 4000000 := by omega
 have h5 : 1 <= (n : Int) := by omega
 clear d U H l g N M x t E D K J;go_enter Tryz.func182, Tryz.ntmps182;go_wp2_with fail;obtain ⟨Y, V⟩ := zex (W.alloc (.cells #[.string ⟨#[]⟩, .string ⟨#[]⟩] 73));have Z : Below W.heap.size W Y := by rw [V]; exact zal _ _
 have O : Y.heap[W.heap.size]? = some (.cells #[.string ⟨#[]⟩, .string ⟨#[]⟩] 73) := by rw [V]; exact World.alloc_heap_new _ _
 have E : Y.cell? ⟨W.heap.size, 0, none⟩ = some (.string ⟨#[]⟩) := by simp [World.cell?, O]
 have D : Y.cell? ⟨W.heap.size, 1, none⟩ = some (.string ⟨#[]⟩) := by simp [World.cell?, O]
 have r3 : Y.frozen? ⟨W.heap.size, 0, none⟩ = false := by simp [World.frozen?, O]
 have r4 : Y.frozen? ⟨W.heap.size, 1, none⟩ = false := by simp [World.frozen?, O]
 have k1 := zcq Z (World.block_lt_of_cell? W _ c1) c1;have k2 := zcq Z (World.block_lt_of_cell? W _ c2) c2;have k3 := zcq Z (World.block_lt_of_cell? W _ I) I;have k4 := zcq Z L S;have k5 := zcq Z L R;have k6 := zcq Z z C;rw [<- V];have HW := hid V;have HR := hid O;clear V O c1 c2 I S R C;have h0 : Below W.heap.size W Y.drew := Z.trans ((bdN Y 1).mono Z.size)
 go_still_tail 10, (by kernel_rfl)
 change wpList _ _ _ _ _ Y.drew;go_wp2_with fail;have f1 : (((Y.setCell ⟨W.heap.size, 0, none⟩ (.string (RS X.1))).setCell ⟨W.heap.size, 1, none⟩ (.string (RS X.2))).drew).cell? ⟨W.heap.size, 0, none⟩ = some (.string (RS X.1)) := by
  show ((Y.setCell ⟨W.heap.size, 0, none⟩ (.string (RS X.1))).setCell ⟨W.heap.size, 1, none⟩ (.string (RS X.2))).cell? ⟨W.heap.size, 0, none⟩ = _;rw [World.cell?_setCell_other _ _ _ _ (by simp)];exact World.cell?_setCell_same' _ _ _ (by rw [E]; rfl)
 have f2 : (((Y.setCell ⟨W.heap.size, 0, none⟩ (.string (RS X.1))).setCell ⟨W.heap.size, 1, none⟩ (.string (RS X.2))).drew).cell? ⟨W.heap.size, 1, none⟩ = some (.string (RS X.2)) := by
  show ((Y.setCell ⟨W.heap.size, 0, none⟩ (.string (RS X.1))).setCell ⟨W.heap.size, 1, none⟩ (.string (RS X.2))).cell? ⟨W.heap.size, 1, none⟩ = _;exact World.cell?_setCell_same' _ _ _ (by rw [World.cell?_setCell_other _ _ _ _ (by simp), D]; rfl)
 exact bodyPost_ret (v := .agg #[.string (RS X.1), .string (RS X.2)]) (by simp [results, Tryz.results182, go_sem, f1, f2]) rfl ⟨_, rfl, rfl, ((Z.setCell (p := ⟨W.heap.size, 0, none⟩) (Nat.le_refl _) _).setCell (p := ⟨W.heap.size, 1, none⟩) (Nat.le_refl _) _).drew⟩
theorem fP0 (x y : Value) (w : World) : (Instr.field 73 (.agg #[x, y]) 0).run Tryz.prog w = .ok x w := by kernel_rfl
theorem fP1 (x y : Value) (w : World) : (Instr.field 73 (.agg #[x, y]) 1).run Tryz.prog w = .ok y w := by kernel_rfl
theorem cQp (p q : Rat) : (0 < cmpQ p q) ↔ q < p := by
 unfold cmpQ;split
 ·rename_i h
  exact ⟨fun h1 => by omega, fun h1 => absurd h (Rat.not_lt.2 (Rat.le_of_lt h1))⟩
 ·split
  ·rename_i h; exact ⟨fun _ => h, fun _ => by omega⟩
  ·rename_i h; exact ⟨fun h1 => by omega, fun h1 => absurd h1 h⟩
theorem cQz (p q : Rat) : (cmpQ p q = 0) ↔ p = q := by
 unfold cmpQ;split
 ·rename_i h; exact ⟨fun h1 => by omega, fun h1 => by subst h1; exact absurd h Rat.lt_irrefl⟩
 ·split
  ·rename_i h; exact ⟨fun h1 => by omega, fun h1 => by subst h1; exact absurd h Rat.lt_irrefl⟩
  ·rename_i h1 h2; exact ⟨fun _ => Rat.le_antisymm (Rat.not_lt.1 h2) (Rat.not_lt.1 h1), fun _ => rfl⟩
theorem cQr (p q : Rat) : -1 <= cmpQ p q /\ cmpQ p q <= 1 := by unfold cmpQ; split; omega; split <;> omega
def upFn (bm bc bn : Nat) : Value := .func (.func 182) #[] #[.pointer (some ⟨bm, 0, none⟩), .pointer (some ⟨bc, 0, none⟩), .pointer (some ⟨bn, 0, none⟩)]
theorem uay (W : World) (bp K L J : Nat) (P : List PtQ) (c : List Int) (k : Nat) (he : OnceEnv W K L J P c) (hp : W.cell? ⟨bp, 0, none⟩ = some (upFn K L J)) (A : OnceOK P c k) (hg : Good W) (i : Nat) (U : Int) (m : U = (i : Int)) (hi : i <= 3000000) :
 Calls Tryz.prog 183 #[.int .i64 U, .pointer (some ⟨bp, 0, none⟩)] W (Ret (fun r _ => r = .bool (upAt P c i)) W) := by
 have h3 := World.block_lt_of_cell? W _ hp;dsimp only at h3;have s1 := A.szAt (i + 1);have s0 := A.szAt i;obtain ⟨R, C⟩ := zex (ptAt P c (i + 1));obtain ⟨S, D⟩ := zex (ptAt P c i);have HO := hid A;have n := hid s1;have o := hid s0;have HE := hid (he.below (bdN W 1));have h5 : Good W.drew := hg.drewN 1;have l := A.kpos;have hc := A.klim;have G : Hid (upAt P c i = upB S R) := by unfold Hid; rw [D, C]; rfl
 have q := hid C;have s := hid D;have I : U + 1 = ((i + 1 : Nat) : Int) := by omega
 have t := hid I;have v := hid m;have ha : 0 <= U := by omega
 have hb : U <= 3000000 := by omega
 have w1 : IntKind.i64.wrap (U + 1) = U + 1 := IntWalk.i64_in _ (by omega);have O := hp;unfold upFn at O;clear A s1 s0 he C D m I hp;have u0 := fP0;have u1 := fP1;go_enter Tryz.func183, Tryz.ntmps183;go_wp2_with fail;go_region_held3 (fun w' => w'.cell? ⟨bp, 0, none⟩ = some (.func (.func 182) #[] #[.pointer (some ⟨K, 0, none⟩), .pointer (some ⟨L, 0, none⟩), .pointer (some ⟨J, 0, none⟩)]))
  (first | exact O | exact q_1_0 | exact q_2_0 | exact q_3_0)
  (first
  | (go_at_call 62; refine (rCa (ptAt P c (i + 1)).2 (ptAt P c i).2 k l (by omega) n.out.2 o.out.2 _ B).mono ?_; rintro e Z ⟨_, rfl, rfl, V⟩
     have q_3_0 := zct V q_2_0;have hh := V.size;have h7 := B.below V)
  | (go_at_call 182; refine (pa0 d K L J P c k H.out HO.out i U v.out (by omega)).mono ?_; rintro e hj ⟨_, rfl, rfl, X⟩
     have q_2_0 := zct X q_1_0;have hf := X.size;have B := f.below X;have z := hid (H.out.below X))
  | (go_at_call 182; refine (pa0 W.drew K L J P c k HE.out HO.out (i + 1) (U + 1) t.out (by omega)).mono ?_; rintro e d ⟨_, rfl, rfl, Y⟩
     have q_1_0 := zct Y O;have hd : W.heap.size <= d.heap.size := Y.size;have f := h5.below Y;have H := hid (HE.out.below Y)))
 have g : Below W.heap.size W Z := zbt (zbt (zbt (bdN W 1) Y) X) V;have x := hid ((z.out.below V).below (bdN Z 1));have h4 : Good Z.drew := h7.drewN 1;have j := q_3_0;clear HE H z Y X V q_1_0 q_2_0 q_3_0 f B O;rw [<- q.out, <- s.out];generalize hy : cmpQ R.2 S.2 = y;have h6 := cQr R.2 S.2;rw [hy] at h6;have HY := hid hy;clear hy;rcases (by omega : y = 1 \/ y = 0 \/ y = -1) with h | h | h
 ·have p : Hid (true = upAt P c i) := by
   unfold Hid; rw [G.out];have E := (cQp R.2 S.2).1 (by rw [HY.out]; omega);unfold upB; rw [decide_eq_true E]; rfl
  subst h;go_wp2_with fail;go_quiet (fail);go_wp2_with fail;go_ret;exact ⟨_, rfl, congrArg Value.bool p.out, g.trans ((bdN Z nq).mono g.size)⟩
 ·have p : Hid (decide (0 < cmpQ R.1 S.1) = upAt P c i) := by
   unfold Hid; rw [G.out];have e := (cQz R.2 S.2).1 (by rw [HY.out]; omega);have E : ¬ S.2 < R.2 := by rw [e]; exact Rat.lt_irrefl
   unfold upB;rw [decide_eq_false E, decide_eq_true e.symm, Bool.false_or, Bool.true_and];exact decide_eq_decide.2 (cQp _ _)
  subst h;go_wp2_with fail;go_region_held3 (fun w' => w'.cell? ⟨bp, 0, none⟩ = some (.func (.func 182) #[] #[.pointer (some ⟨K, 0, none⟩), .pointer (some ⟨L, 0, none⟩), .pointer (some ⟨J, 0, none⟩)]))
   (first | exact j | exact r_1_0 | exact r_2_0 | exact r_3_0)
   (first
   | (go_at_call 62; refine (rCa (ptAt P c (i + 1)).1 (ptAt P c i).1 k l (by omega) n.out.1 o.out.1 _ b).mono ?_; rintro e h9 ⟨_, rfl, rfl, M⟩
      have r_3_0 := zct M r_2_0;have hn := M.size;have hk := b.below M)
   | (go_at_call 182; refine (pa0 a K L J P c k h0.out HO.out i U v.out (by omega)).mono ?_; rintro e hq ⟨_, rfl, rfl, N⟩
      have r_2_0 := zct N r_1_0;have hm := N.size;have b := h8.below N)
   | (go_at_call 182; refine (pa0 Z.drew K L J P c k x.out HO.out (i + 1) (U + 1) t.out (by omega)).mono ?_; rintro e a ⟨_, rfl, rfl, Q⟩
      have r_1_0 := zct Q j;have hl : Z.heap.size <= a.heap.size := Q.size;have h8 := h4.below Q;have h0 := hid (x.out.below Q)))
  have rB : Below Z.heap.size Z h9 := zbt (zbt (zbt (bdN Z 1) Q) N) M;rw [<- q.out, <- s.out];go_wp2_with fail;go_ret;exact ⟨_, rfl, congrArg Value.bool p.out, (zbt g rB)⟩
 ·have p : Hid (false = upAt P c i) := by
   unfold Hid; rw [G.out];have E : ¬ S.2 < R.2 := fun E => by have := (cQp R.2 S.2).2 E; rw [HY.out] at this; omega
   have h2 : ¬ S.2 = R.2 := fun h2 => by have := (cQz R.2 S.2).2 h2.symm; rw [HY.out] at this; omega
   unfold upB; rw [decide_eq_false E, decide_eq_false h2]; rfl
  subst h;go_wp2_with fail;go_quiet (fail);go_wp2_with fail;go_ret;exact ⟨_, rfl, congrArg Value.bool p.out, g.trans ((bdN Z nq).mono g.size)⟩
theorem rNs (P : List PtQ) (c : List Int) (k : Nat) : rNN P c (k + 1) = rNN P c k + (if rAt P c k then 1 else 0) := by
 unfold rNN;rw [List.range_succ, List.filter_append, List.length_append];congr 1;cases h : rAt P c k <;> simp [List.filter, h]
theorem rNl (P : List PtQ) (c : List Int) (k : Nat) : rNN P c k <= k := by
 unfold rNN;exact Nat.le_trans (List.length_filter_le _ _) (by simp)
def bTo (P : List PtQ) (c : List Int) (k : Nat) : Bool := (List.range k).all (bAt P c)
theorem bTs (P : List PtQ) (c : List Int) (k : Nat) : bTo P c (k + 1) = (bTo P c k && bAt P c k) := by
 unfold bTo; rw [List.range_succ, List.all_append]; simp
theorem bTf {P : List PtQ} {c : List Int} {k n : Nat} (Y : k < n) (h : bAt P c k = false) : bTo P c n = false := by
 unfold bTo;rw [Bool.eq_false_iff];intro Z;have := List.all_eq_true.1 Z k (List.mem_range.2 Y);rw [h] at this; cases this
theorem of0 (w : World) (l vt vc : Value) (P : List PtQ) (c : List Int) (k : Nat) (hp : RdP w l (strP P)) (g : RdI .i64 w vc c) (j : OnceOK P c k) (hg : Good w) :
 Calls Tryz.prog 150 #[.agg #[l, vt], vc] w (Ret (fun r _ => r = .bool (onceB P c)) w) := by
 have s := g;obtain ⟨pc, cc, rfl, _, ha, _⟩ := s.open;have h9 := j.len;have hb := j.pos;have L := hid j;have HP := hid hp;have HC := hid g;clear j hp g s;go_enter Tryz.func150, Tryz.ntmps150;go_wp2_with fail;obtain ⟨Y, Z⟩ := zex ((((w.alloc (.cells #[l, vt] 41)).alloc (.cells #[.slice pc c.length cc] 66)).alloc (.cells #[.int .i64 c.length] 3)).alloc (.cells #[.func (.func 182) #[] #[.pointer (some ⟨w.heap.size, 0, none⟩), .pointer (some ⟨w.heap.size + 1, 0, none⟩), .pointer (some ⟨w.heap.size + 1 + 1, 0, none⟩)]] 253));have O : Below w.heap.size w Y := by rw [Z]; exact ((((Below.refl _ _).alloc (Nat.le_refl _) _).alloc (by simp) _).alloc (by simp; omega) _).alloc (by simp; omega) _
 have hf : Y.heap.size = w.heap.size + 4 := by rw [Z]; simp
 have y0 : Y.cell? ⟨w.heap.size, 0, none⟩ = some l := by
  rw [Z, World.cell?_alloc_past _ _ _ (by simp; omega), World.cell?_alloc_past _ _ _ (by simp; omega), World.cell?_alloc_past _ _ _ (by simp), World.cell?_alloc_at _ _ _ _ rfl]; rfl
 have y1 : Y.cell? ⟨w.heap.size + 1, 0, none⟩ = some (.slice pc c.length cc) := by
  rw [Z, World.cell?_alloc_past _ _ _ (by simp), World.cell?_alloc_past _ _ _ (by simp), World.cell?_alloc_at _ _ _ _ (by simp)]; rfl
 have y2 : Y.cell? ⟨w.heap.size + 2, 0, none⟩ = some (.int .i64 c.length) := by
  rw [Z, World.cell?_alloc_past _ _ _ (by simp), World.cell?_alloc_at _ _ _ _ (by simp)]; rfl
 have y3 : Y.cell? ⟨w.heap.size + 3, 0, none⟩ = some (.func (.func 182) #[] #[.pointer (some ⟨w.heap.size, 0, none⟩), .pointer (some ⟨w.heap.size + 1, 0, none⟩), .pointer (some ⟨w.heap.size + 2, 0, none⟩)]) := by
  rw [Z, World.cell?_alloc_at _ _ _ _ (by simp)]; rfl
 have i : Hid (OnceEnv Y w.heap.size (w.heap.size + 1) (w.heap.size + 2) P c) := ⟨⟨l, y0, RdC.below HP.out O⟩, ⟨_, y1, RdC.below HC.out O⟩, y2⟩;have f := hg.below O;rw [<- Z];clear Z y0 y1 y2 HP HC;go_loopw [8, 15] (fun t8 t15 wr => ∃ m : Nat, m <= c.length /\ t15 = .int .i64 (m : Int) /\ t8 = .int .i64 (rNN P c m : Int) /\ Hid (bTo P c m = true) /\ Below Y.heap.size Y wr) (fun _ t15 _ => c.length - (RowKit.intOf t15).toNat)
 case atStart => exact ⟨0, Nat.zero_le _, rfl, rfl, rfl, Below.refl _ _⟩
 case round =>
  obtain ⟨m, hm, rfl, rfl, HB, X⟩ := hrel;have he := rNl P c m;have C := zcq X (by show w.heap.size + 3 < Y.heap.size; omega) y3;have h3 := X.size;have a : Good wr := f.below X;have b : Good wr.drew := a.drewN 1;have H : Hid (OnceEnv wr.drew w.heap.size (w.heap.size + 1) (w.heap.size + 2) P c) := (i.out.below X).below (bdN wr 1);rcases Nat.lt_or_ge m c.length with h2 | hd
  ·have s0 := L.out.szAt m
   have s1 := L.out.szAt (m + 1);have s2 := L.out.szAt (m + 2);have x := hid s0;have v := hid s1;have t := hid s2;have h1 := L.out.kpos;have h0 := L.out.klim;have A : Hid (bAt P c m = decide (0 <= turnZ (ptAt P c m) (ptAt P c (m + 1)) (ptAt P c (m + 2)))) := rfl;have w1 : IntKind.i64.wrap ((m : Int) + 1) = (m : Int) + 1 := IntWalk.i64_in _ (by omega);have w2 : IntKind.i64.wrap ((m : Int) + 2) = (m : Int) + 2 := IntWalk.i64_in _ (by omega);have h7 : (m : Int) < (c.length : Int) := by omega
   clear s0 s1 s2 y3;go_wp2_with fail;go_region_held3 (fun w' => w'.cell? ⟨w.heap.size + 3, 0, none⟩ = some (.func (.func 182) #[] #[.pointer (some ⟨w.heap.size, 0, none⟩), .pointer (some ⟨w.heap.size + 1, 0, none⟩), .pointer (some ⟨w.heap.size + 2, 0, none⟩)]))
    (first | exact C | exact q_1_0 | exact q_2_0 | exact q_3_0 | exact q_4_0)
    (first
    | (go_at_call 108; refine (tb0 (ptAt P c m) (ptAt P c (m + 1)) (ptAt P c (m + 2)) k h1 h0 x.out v.out t.out _ p).mono ?_; rintro e K ⟨_, rfl, rfl, R⟩
       have q_4_0 := zct R q_3_0;have hk := R.size;have o := p.below R)
    | (go_at_call 182; refine (pa0 h6 w.heap.size (w.heap.size + 1) (w.heap.size + 2) P c k E.out L.out (m + 2) ((m : Int) + 2) (by omega) (by omega)).mono ?_; rintro e hl ⟨_, rfl, rfl, S⟩
       have q_3_0 := zct S q_2_0;have hj := S.size;have p := h5.below S;have z := hid (E.out.below S))
    | (go_at_call 182; refine (pa0 n w.heap.size (w.heap.size + 1) (w.heap.size + 2) P c k G.out L.out (m + 1) ((m : Int) + 1) (by omega) (by omega)).mono ?_; rintro e h6 ⟨_, rfl, rfl, U⟩
       have q_2_0 := zct U q_1_0;have hi := U.size;have h5 := h4.below U;have E := hid (G.out.below U))
    | (go_at_call 182; refine (pa0 wr.drew w.heap.size (w.heap.size + 1) (w.heap.size + 2) P c k H.out L.out m (m : Int) rfl (by omega)).mono ?_; rintro e n ⟨_, rfl, rfl, V⟩
       have q_1_0 := zct V C;have hh : wr.heap.size <= n.heap.size := V.size;have h4 := b.below V;have G := hid (H.out.below V)))
   have qB : Below wr.heap.size wr K := zbt (zbt (zbt (zbt (bdN wr 1) V) U) S) R;have D := hid (z.out.below R);have B := q_4_0;have N : Below Y.heap.size Y K := X.trans (qB.mono h3);have h8 : wr.heap.size <= K.heap.size := qB.size;clear H G E z V U S R q_1_0 q_2_0 q_3_0 q_4_0 C qB x v t w2;generalize turnZ (ptAt P c m) (ptAt P c (m + 1)) (ptAt P c (m + 2)) = tz at *;by_cases htz : tz < 0
   ·have h : Hid (false = onceB P c) := by
     unfold Hid onceB;have := bTf (P := P) h2 (by rw [A.out]; exact decide_eq_false (by omega));unfold bTo at this;rw [this]; rfl
    go_wp2_with fail;go_ret;exact ⟨_, rfl, congrArg Value.bool h.out, O.trans (N.mono (by omega))⟩
   ·have I : Hid (bTo P c (m + 1) = true) := by
     unfold Hid; rw [bTs, HB.out, A.out, decide_eq_true (by omega)]; rfl
    go_wp2_with fail;refine zR (uay _ (w.heap.size + 3) w.heap.size (w.heap.size + 1) (w.heap.size + 2) P c k D.out B L.out o m (m : Int) rfl (by omega)) fun w8 hb8 => ?_;have y := hid (D.out.below hb8);have q := zcq hb8 (by show w.heap.size + 3 < K.heap.size; omega) B;have d := o.below hb8;have M : Below Y.heap.size Y w8 := N.trans (hb8.mono (by omega));clear D B hb8 N;cases hu : upAt P c m
    ·go_wp2_with fail
     refine zR (uay _ (w.heap.size + 3) w.heap.size (w.heap.size + 1) (w.heap.size + 2) P c k y.out q L.out d (m + 1) ((m : Int) + 1) (by omega) (by omega)) fun w9 hb9 => ?_;have J : Below Y.heap.size Y w9 := M.trans (hb9.mono (by have := M.size; omega));clear y q hb9;cases hv : upAt P c (m + 1)
     ·have Q : Hid (rNN P c (m + 1) = rNN P c m) := by unfold Hid; rw [rNs]; unfold rAt; rw [hu, hv]; rfl
      clear hu hv;go_wp2_with fail;go_roundw
      case rel => exact ⟨m + 1, by omega, by go_num, by rw [Q.out], I, J⟩
      case measure => simp [RowKit.intOf]; omega
     ·have Q : Hid (rNN P c (m + 1) = rNN P c m + 1) := by unfold Hid; rw [rNs]; unfold rAt; rw [hu, hv]; rfl
      clear hu hv;go_wp2_with fail;go_roundw
      case rel => exact ⟨m + 1, by omega, by go_num, by rw [Q.out]; go_num, I, J⟩
      case measure => simp [RowKit.intOf]; omega
    ·have Q : Hid (rNN P c (m + 1) = rNN P c m) := by unfold Hid; rw [rNs]; unfold rAt; rw [hu]; rfl
     clear hu;go_wp2_with fail;go_roundw
     case rel => exact ⟨m + 1, by omega, by go_num, by rw [Q.out], I, M⟩
     case measure => simp [RowKit.intOf]; omega
  ·obtain rfl : m = c.length := by omega
   have h : Hid ((((rNN P c c.length : Nat) : Int) == 1) = onceB P c) := by
    unfold Hid onceB;have := HB.out;unfold bTo at this;rw [this, Bool.true_and];rw [Bool.eq_iff_iff]; simp; omega
   go_wp2_with fail;go_ret;exact ⟨_, rfl, congrArg Value.bool h.out, O.trans (X.mono (by omega))⟩
open Go.Shelf
attribute [local go_sem] Oper.semAt_some
def ownL (T : List Tri) : List (Edge × Int) := T.zipIdx.flatMap fun x => (sOf x.1).map fun s => (s, (x.2 : Int))
theorem oLk (T : List Tri) : (ownL T).map (·.1) = kOf T := by
 unfold ownL kOf;rw [List.map_flatMap];have : ∀ (T : List Tri) (k : Nat), (T.zipIdx k).flatMap (fun a => List.map (fun x => x.1) (List.map (fun s => (s, (a.2 : Int))) (sOf a.1))) = T.flatMap sOf := by
  intro T
  induction T with
  | nil => intro k; rfl
  | cons t T ih => intro k; simp only [List.zipIdx_cons, List.flatMap_cons, ih]; simp [Function.comp_def]
 exact this T 0
theorem od0 (T : List Tri) (k : Nat) (h : k < T.length) : ownL (T.take (k + 1)) = ownL (T.take k) ++ (sOf T[k]).map fun s => (s, (k : Int)) := by
 unfold ownL;rw [List.take_succ_eq_append_getElem h, List.zipIdx_append, List.flatMap_append];simp [Nat.min_eq_left (Nat.le_of_lt h)]
theorem kOt (T : List Tri) (k : Nat) (h : k < T.length) : kOf (T.take (k + 1)) = kOf (T.take k) ++ sOf T[k] := by
 unfold kOf;rw [List.take_succ_eq_append_getElem h, List.flatMap_append];simp
theorem sKl (t : Tri) : all3.map (sideK t) = sOf t := rfl
theorem sss (F : Fence) (n : Nat) (Q : F.fn 210) (V : F.round = none) (O : 1 <= n) (Z n₀ : Nat) (t : Tri) (w : World) (Y : Z < w.heap.size)
 (U : w.cell? ⟨Z, 0, none⟩ = some (.int .i64 t.1)) (S : w.cell? ⟨Z, 1, none⟩ = some (.int .i64 t.2.1)) (R : w.cell? ⟨Z, 2, none⟩ = some (.int .i64 t.2.2)) :
 SeqStopsK F n Tryz.prog 210 #[.pointer (some ⟨Z, 0, none⟩)] (eSe t) (KeepAt n₀ Z) (fun ys => ys = all3) (fun pre => pre <+: all3) 3 w := fun l J Jx W X hJ _ hY h0' =>
 s1i F n Q V O l Z n₀ t J Jx (fun pre W hj => hJ pre W W.drew none hj ⟨rfl, rfl, rfl, Nat.le_refl _, fun _ _ _ => rfl⟩ (fun r e => by cases e)) hY W
  ((zcq X Y U :)) ((zcq X Y S :)) ((zcq X Y R :)) h0'
def mOf (D : Nat) : Deferred := { target := .collected D, args := #[] }
def Marks (B : Nat) (ds : List Deferred) (w : World) : Prop := ∃ Ds : List Nat, ds = Ds.map mOf /\ Ds.Nodup /\ ∀ D ∈ Ds, B <= D /\ w.heap[D]? = some (.deferred (some []))
theorem Marks.nil (B : Nat) (w : World) : Marks B [] w := ⟨[], rfl, List.nodup_nil, fun _ h => absurd h (by simp)⟩
theorem Marks.cons {B D : Nat} {ds : List Deferred} {w w' : World} (h : Marks B ds w) (S : ∀ k : Nat, w.heap[k]? = some (.deferred (some [])) -> w'.heap[k]? = some (.deferred (some []))) (V : B <= D) (Q : w.heap.size <= D) (R : w'.heap[D]? = some (.deferred (some []))) : Marks B (mOf D :: ds) w' := by
 obtain ⟨X, rfl, U, Y⟩ := h;refine ⟨D :: X, rfl, List.nodup_cons.2 ⟨fun hm => ?_, U⟩, fun E Z => ?_⟩
 ·have := (Array.getElem?_eq_some_iff.1 (Y D hm).2).1
  omega
 ·rcases List.mem_cons.1 Z with rfl | Z
  ·exact ⟨V, R⟩
  ·exact ⟨(Y E Z).1, S E (Y E Z).2⟩
theorem Marks.kept {B : Nat} {ds : List Deferred} {w w' : World} (h : Marks B ds w) (V : ∀ k : Nat, w.heap[k]? = some (.deferred (some [])) -> w'.heap[k]? = some (.deferred (some []))) : Marks B ds w' := by
 obtain ⟨Y, rfl, X, Z⟩ := h;exact ⟨Y, rfl, X, fun E hE => ⟨(Z E hE).1, V E (Z E hE).2⟩⟩
structure Struck (B : Nat) (w w' : World) : Prop where
 os : w'.os = w.os
 tape : w'.tape = w.tape
 output : w'.output = w.output
 size : w.heap.size <= w'.heap.size
 block : ∀ k, (k < B \/ ∀ l, w.heap[k]? ≠ some (.deferred l)) -> k < w.heap.size -> w'.heap[k]? = w.heap[k]?
theorem Struck.refl (B : Nat) (w : World) : Struck B w w := ⟨rfl, rfl, rfl, Nat.le_refl _, fun _ _ _ => rfl⟩
theorem Struck.below {B : Nat} {w w' : World} (h : Struck B w w') (Z : B <= w.heap.size) : Below B w w' := by
 exact ⟨h.os, h.tape, h.output, h.size, fun k hk => h.block k (.inl hk) (by omega)⟩
theorem Struck.boxed {B b t : Nat} {w w' : World} {v : Value} (h : Struck B w w') (Z : Boxed w b t v) : Boxed w' b t v :=
 (h.block b (.inr fun l e => by rw [show w.heap[b]? = _ from Z] at e; cases e) Z.lt).trans Z
theorem Struck.mapL {α β : Type} {K E : Nat} {V : KVw α K} {ev : β -> Lit} {B b n : Nat} {w w' : World} {D : DataW Unit} {L : List (α × β)} (h : Struck B w w') (S : MapL V E ev w b n D L) : MapL V E ev w' b n D L := by
 obtain ⟨⟨X, Z, Y, F, Q, U⟩, R⟩ := S;exact ⟨⟨X, Z, (h.block b (.inr fun l e => by rw [Y] at e; cases e) (Array.getElem?_eq_some_iff.1 Y).1).trans Y, F, Q, U⟩, R⟩
theorem lms {F : Fence} {n : Nat} {P : Program} {fn : Func} {tmps : Array Value} {R : Ending -> World -> Prop} {B : Nat} : ∀ {X : List Deferred} {w : World}, Marks B X w -> (∀ w', Struck B w w' -> LeavesIn F n P fn tmps R [] .returning w') -> LeavesInM F n P fn tmps R X .returning w := by
 intro X
 induction X with
 | nil => intro w _ h; exact h w (Struck.refl _ _)
 | cons d X ih =>
   rintro w ⟨Q, O, Y, S⟩ h;cases Q with
   | nil => simp at O
   | cons D Q =>
     simp only [List.map_cons, List.cons.injEq] at O;obtain ⟨rfl, rfl⟩ := O;obtain ⟨L, Y⟩ := List.nodup_cons.1 Y;have N := (S D (by simp)).2;refine ⟨by simp, .inl ⟨D, _, rfl, run_takeDeferred N, ?_⟩⟩;refine ih (w := w.putObj D (.deferred none)) ⟨Q, rfl, Y, fun E hE => ⟨(S E (by simp [hE])).1, ?_⟩⟩ (fun w' hw' => h w' ?_)
     ·rw [World.putObj_heap_other (by rintro rfl; exact L hE)]
      exact (S E (by simp [hE])).2
     ·have M : ∀ k, k ≠ D -> (w.putObj D (.deferred none)).heap[k]? = w.heap[k]? := fun k Z => World.putObj_heap_other Z
      have V := grownBy_putObj' w D (.deferred none);refine ⟨hw'.os.trans V.os, hw'.tape.trans V.tape, hw'.output.trans V.output, Nat.le_trans V.size hw'.size, fun k Z hlt => ?_⟩;have U : k ≠ D := by
       rintro rfl;rcases Z with Z | Z
       ·have := (S k (by simp)).1; omega
       ·exact Z _ N
      refine (hw'.block k ?_ (Nat.lt_of_lt_of_le hlt V.size)).trans (M k U);rw [M k U]; exact Z
def OPP (T : List Tri) (n : Nat) (v : Value) (w' : World) : Prop :=
 ((kOf T).Nodup /\ ∃ b D, n <= b /\ v = .tuple #[.map (some b), .bool true] /\ MapL viewE 3 (Lit.int .i64) w' b (3 * T.length) D (ownL T)) \/ (¬ (kOf T).Nodup /\ v = .tuple #[.map none, .bool false])
theorem oin (n : Nat) (hn : 6 <= n) (w : World) (vp vt : Value) (T : List Tri) (hu : RdT w vt T) (hM : T.length <= 1000000) (hI : ∀ t ∈ T, InI t.1 /\ InI t.2.1 /\ InI t.2.2) :
 CallsIn Fence.wide n Tryz.prog 148 #[.agg #[vp, vt]] w (Ret (OPP T w.heap.size) w) := by
 have h1 : 1 <= n := by omega
 have hq := @run_makeMap Tryz.prog;obtain ⟨p, c, rfl, z3, hZ, O⟩ := hu.open;have HR := hid O;have hA := hid hI;clear O hI hu;refine callsIn_of_wp_marks Tryz.func148 rfl trivial ?_ rfl;simp only [Tryz.ntmps148, List.size_toArray, List.length_cons, List.length_nil, Nat.reduceAdd, Nat.reduceSub, Array.replicate_succ, Array.replicate_zero, List.push_toArray, List.append_toArray, List.nil_append, List.cons_append];gi_wp2_with fail;obtain ⟨W0, U⟩ := zex (((((w.alloc (.cells #[vp, .slice p T.length c] 41)).alloc (.cells #[.map none] 218)).alloc (.cells #[.bool false] 4)).alloc (.map #[] 0)).alloc (.cells #[.map (some (w.heap.size + 1 + 1 + 1))] 218));have hf : Below w.heap.size w W0 := by rw [U]; exact (((((Below.refl _ _).alloc (Nat.le_refl _) _).alloc (by simp) _).alloc (by simp; omega) _).alloc (by simp; omega) _).alloc (by simp; omega) _
 have hv : W0.heap.size = w.heap.size + 5 := by rw [U]; simp
 have x1 : Boxed W0 (w.heap.size + 1) 218 (.map none) := by
  rw [U]; refine Boxed.alloc (Boxed.alloc (Boxed.alloc ?_ _) _) _;have := Boxed.new (w.alloc (.cells #[vp, .slice p T.length c] 41)) 218 (.map none);simpa using this
 have x2 : Boxed W0 (w.heap.size + 2) 4 (.bool false) := by
  rw [U]; refine Boxed.alloc (Boxed.alloc ?_ _) _;have := Boxed.new ((w.alloc (.cells #[vp, .slice p T.length c] 41)).alloc (.cells #[.map none] 218)) 4 (.bool false);simpa using this
 have x4 : Boxed W0 (w.heap.size + 4) 218 (.map (some (w.heap.size + 3))) := by
  rw [U];have := Boxed.new ((((w.alloc (.cells #[vp, .slice p T.length c] 41)).alloc (.cells #[.map none] 218)).alloc (.cells #[.bool false] 4)).alloc (.map #[] 0)) 218 (.map (some (w.heap.size + 3)));simpa using this
 have hp : MapL viewE 3 (Lit.int .i64) W0 (w.heap.size + 3) 0 (.map []) [] := by
  rw [U];have := (MapL.made (β := Int) ((w.alloc (.cells #[vp, .slice p T.length c] 41)).alloc (.cells #[.map none] 218) |>.alloc (.cells #[.bool false] 4)) viewE 3 (Lit.int .i64)).kept (World.grownBy_alloc _ (.cells #[.map (some (w.heap.size + 1 + 1 + 1))] 218) none) (by simp);simpa using this
 rw [<- U];have HZ := hid hv;clear U hv;refine wpIn_loop (fun a wr => ∃ (k : Nat) (ds : List Deferred) (u5 u6 u7 u8 u9 u10 u16 u17 u18 u19 u20 u21 u22 u23 u24 u25 u26 u27 u28 u29 u30 u31 u32 u33 u34 : Value), (k <= T.length /\ Hid ((kOf (T.take k)).Nodup) /\ (∃ D, Hid (MapL viewE 3 (Lit.int .i64) wr (w.heap.size + 3) (3 * k) D (ownL (T.take k)))) /\
  (Boxed wr (w.heap.size + 1) 218 (.map none) /\ Boxed wr (w.heap.size + 2) 4 (.bool false) /\ Boxed wr (w.heap.size + 4) 218 (.map (some (w.heap.size + 3)))) /\ Below w.heap.size w wr /\ w.heap.size + 5 <= wr.heap.size /\ Marks (w.heap.size + 5) ds wr) /\
  a = { tmps := #[.agg #[vp, .slice p T.length c], .pointer (some ⟨w.heap.size, 0, none⟩), .pointer (some ⟨w.heap.size + 1, 0, none⟩), .pointer (some ⟨w.heap.size + 2, 0, none⟩), .pointer (some ⟨w.heap.size + 4, 0, none⟩), u5, u6, u7, u8, u9, u10, .map (some (w.heap.size + 3)), .pointer (some ⟨w.heap.size, 1, none⟩),
   .slice p T.length c, .int .i64 T.length, .int .i64 k, u16, u17, u18, u19, u20, u21, u22, u23, u24, u25, u26, u27, u28, u29, u30, u31, u32, u33, u34, undef], defers := ds })
  (fun a _ => T.length - (RowKit.intOf (a.tmps.getD 15 undef)).toNat) ?_ ?_
 ·exact ⟨0, [], _, _, _, _, _, _, _, _, _, _, _, _, _, _, _, _, _, _, _, _, _, _, _, _, _, ⟨Nat.zero_le _, by simp [Hid, kOf], ⟨_, hid hp⟩, ⟨x1, x2, x4⟩, hf, by have := HZ.out; omega, Marks.nil _ _⟩, rfl⟩
 ·rintro a wr ⟨k, ds, u5, u6, u7, u8, u9, u10, u16, u17, u18, u19, u20, u21, u22, u23, u24, u25, u26, u27, u28, u29, u30, u31, u32, u33, u34, ⟨hk, HN, ⟨D, HM⟩, ⟨y1, y2, y4⟩, hB, hz, h8⟩, rfl⟩
  clear x1 x2 x4 hp hf;by_cases hlt : k < T.length
  ·obtain ⟨b, off, rfl, h7, J⟩ := HR.out (List.ne_nil_of_length_pos (by omega))
   obtain ⟨e0, e1, e2⟩ := J k hlt;obtain ⟨t, ht⟩ := zex (T[k]);rw [<- ht] at e0 e1 e2;have d0 := zcq hB h7 e0;have d1 := zcq hB h7 e1;have d2 := zcq hB h7 e2;have HT := hid ht;clear J e0 e1 e2 ht;have hO : (k : Int) < (T.length : Int) := by omega
   have g4 := y4.cell;gi_wp2_with fail;refine ⟨trivial, ?_⟩;refine CallsIn.mono (callsIn_wide.2 (sz0 t _)) ?_;rintro e w3 ⟨rfl, rfl⟩;obtain ⟨V, S⟩ := zex (((wr.alloc (.cells #[.int .i64 (k : Int)] 3)).alloc (.cells #[.int .i64 t.1, .int .i64 t.2.1, .int .i64 t.2.2] 70)).alloc (.cells #[.int .i64 t.1, .int .i64 t.2.1, .int .i64 t.2.2] 70));have X : Below wr.heap.size wr V := by rw [S]; exact (((Below.refl _ _).alloc (Nat.le_refl _) _).alloc (by simp) _).alloc (by simp; omega) _
   have z6 : V.heap.size = wr.heap.size + 3 := by rw [S]; simp
   have z5 : Boxed V wr.heap.size 3 (.int .i64 (k : Int)) := by rw [S]; exact ((Boxed.new wr _ _).alloc _).alloc _
   have s0 : V.cell? ⟨wr.heap.size + 2, 0, none⟩ = some (.int .i64 t.1) := by rw [S, World.cell?_alloc_at _ _ _ _ (by simp)]; rfl
   have s1 : V.cell? ⟨wr.heap.size + 2, 1, none⟩ = some (.int .i64 t.2.1) := by rw [S, World.cell?_alloc_at _ _ _ _ (by simp)]; rfl
   have s2 : V.cell? ⟨wr.heap.size + 2, 2, none⟩ = some (.int .i64 t.2.2) := by rw [S, World.cell?_alloc_at _ _ _ _ (by simp)]; rfl
   gi_wp2_with fail;rw [<- S];have z1 : Boxed V (w.heap.size + 1) 218 (.map none) := (X.block _ (by omega)).trans y1;have z2 : Boxed V (w.heap.size + 2) 4 (.bool false) := (X.block _ (by omega)).trans y2;have z4 : Boxed V (w.heap.size + 4) 218 (.map (some (w.heap.size + 3))) := (X.block _ (by omega)).trans y4;have v : Below w.heap.size w V := zbt hB X;have h9 : MapL viewE 3 (Lit.int .i64) V (w.heap.size + 3) (3 * k) D (ownL (T.take k)) := HM.out.below X (by omega);have d : Marks (w.heap.size + 5) ds V := h8.kept fun j hj => (X.block j (Array.getElem?_eq_some_iff.1 hj).1).trans hj;have hC : Hid (∀ x, InE (sideK t x)) := fun x => by
    obtain ⟨i1, i2, i3⟩ := hA.out t (by rw [HT.out]; exact List.getElem_mem hlt);rcases x with ⟨x, hx⟩
    rcases (by omega : x = 0 \/ x = 1 \/ x = 2) with rfl | rfl | rfl
    ·exact ⟨i1, i2⟩
    ·exact ⟨i2, i3⟩
    ·exact ⟨i3, i1⟩
   clear S X y1 y2 y4 g4 h8 HM hB;refine wpIn_rangeFunc_ownH rfl h1 (gf := 210) (lb := #[.pointer (some ⟨wr.heap.size + 1 + 1, 0, none⟩)]) rfl trivial (enters_of Tryz.func210 (by kernel_rfl) rfl)
    (sss Fence.wide (n - 1) trivial rfl (by omega) (wr.heap.size + 2) w.heap.size t V (by omega) s0 s1 s2) (fun h k => KeepAt.trans h k) (kAb (by omega) (by omega)) (Below.refl _ _) (fun _ => rfl)
    (fun pre W => V.grownBy W (some (w.heap.size + 3)) /\ ((∃ D, Hid (MapL viewE 3 (Lit.int .i64) W (w.heap.size + 3) (3 * k + pre.length) D (ownL (T.take k) ++ pre.map fun x => (sideK t x, (k : Int))))) /\ Hid ((kOf (T.take k) ++ pre.map (sideK t)).Nodup)))
    (fun c pre W => (c = .ret /\ ¬ (kOf (T.take k) ++ pre.map (sideK t)).Nodup) /\ (Boxed W (w.heap.size + 1) 218 (.map none) /\ Boxed W (w.heap.size + 2) 4 (.bool false) /\ (∀ j : Nat, V.heap[j]? = some (.deferred (some [])) -> W.heap[j]? = some (.deferred (some []))) /\ V.heap.size <= W.heap.size /\ Below w.heap.size w W))
    ?hI ?hIx ?h0 (fun x a' W => ∃ C, (V.heap.size <= C /\ W.heap[C]? = some (.cells #[.int .i64 (sideK t x).1, .int .i64 (sideK t x).2] 142)) /\
     a' = { tmps := #[.agg #[vp, .slice (some ⟨b, off, none⟩) T.length c], .pointer (some ⟨w.heap.size, 0, none⟩), .pointer (some ⟨w.heap.size + 1, 0, none⟩), .pointer (some ⟨w.heap.size + 2, 0, none⟩), .pointer (some ⟨w.heap.size + 4, 0, none⟩), .pointer (some ⟨wr.heap.size, 0, none⟩), .pointer (some ⟨wr.heap.size + 1, 0, none⟩), u7, .pointer (some ⟨C, 0, none⟩), u9, u10,
      .map (some (w.heap.size + 3)), .pointer (some ⟨w.heap.size, 1, none⟩), .slice (some ⟨b, off, none⟩) T.length c, .int .i64 T.length, .int .i64 k, .bool true, .int .i64 k, .pointer (some ⟨b, off + k * 3, none⟩), .agg #[.int .i64 t.1, .int .i64 t.2.1, .int .i64 t.2.2], .agg #[.int .i64 t.1, .int .i64 t.2.1, .int .i64 t.2.2],
      .func (.func 210) #[] #[.pointer (some ⟨wr.heap.size + 1 + 1, 0, none⟩)], .int .i64 (x.val : Int), .agg #[.int .i64 (sideK t x).1, .int .i64 (sideK t x).2], u24, u25, u26, u27, u28, u29, u30, u31, u32, u33, u34, undef], defers := [] })
    ?hAx ?assign ?body ?done ?stop
   case hI =>
    rintro pre W W' row ⟨Y, ⟨M, g⟩, hn⟩ N O;have ha : some (w.heap.size + 3) ≠ row := fun e => by have := (O _ e.symm).1; omega
    exact ⟨⟨N.os.trans Y.os, N.tape.trans Y.tape, N.output.trans Y.output, Nat.le_trans Y.size N.size, fun j hj hjn => (N.block j (Nat.lt_of_lt_of_le hj Y.size) (fun e => by have := (O _ e.symm).1; omega)).trans (Y.block j hj hjn)⟩, ⟨M, g.out.kept N ha⟩, hn⟩
   case hIx =>
    rintro c' pre W W' row ⟨hc, x1, x2, m, hw, s⟩ N O;refine ⟨hc, x1.kept N (fun e => by have := (O _ e.symm).1; omega), x2.kept N (fun e => by have := (O _ e.symm).1; omega), fun j hj => ?_, Nat.le_trans hw N.size, s.grown N s.size (fun j e => by have := (O _ e).1; omega)⟩;have z0 := (Array.getElem?_eq_some_iff.1 hj).1;have hG := (Array.getElem?_eq_some_iff.1 (m j hj)).1;exact (N.block j hG (fun e => by have := (O _ e.symm).1; omega)).trans (m j hj)
   case h0 => exact ⟨⟨rfl, rfl, rfl, Nat.le_refl _, fun _ _ _ => rfl⟩, ⟨D, by simpa [Hid] using h9⟩, by simpa [Hid] using HN.out⟩
   case hAx =>
    rintro x a' _ W W' row ⟨C, ⟨h1, h2⟩, h3⟩ N O;refine ⟨C, ⟨h1, (N.block C (Array.getElem?_eq_some_iff.1 h2).1 (fun e => ?_)).trans h2⟩, h3⟩;obtain ⟨_, o, ho, hc⟩ := O C e.symm;rw [h2] at ho; cases ho; cases hc
   case assign =>
    rintro l pre x W K ⟨Y, ⟨M, g⟩, Q⟩ hK;dsimp only [eSe];gi_wp2_with fail;have L := World.grownBy_alloc W (.cells #[.int .i64 (sideK t x).1, .int .i64 (sideK t x).2] 142) none;refine hK _ _ ((KeepsOthers.alloc _ _).from _) ⟨(Below.refl _ W).alloc (by have := Y.size; omega) _, Below.heap_alloc _ _ _ (by have := Y.size; omega)⟩ ⟨⟨L.os.trans Y.os, L.tape.trans Y.tape, L.output.trans Y.output, Nat.le_trans Y.size L.size, fun j hj hjn => (L.block j (Nat.lt_of_lt_of_le hj Y.size) (by simp)).trans (Y.block j hj hjn)⟩, ⟨M, g.out.kept L (by simp)⟩, Q⟩ ⟨W.heap.size, ⟨Y.size, World.alloc_heap_new _ _⟩, rfl⟩
   case body =>
    rintro l pre x a' W hl ⟨r, O⟩ ⟨Y, ⟨M, g⟩, Q⟩ ⟨C, ⟨hY, q⟩, rfl⟩ hN;have q1 : Boxed W (w.heap.size + 1) 218 (.map none) := z1.kept Y (by simp);have q2 : Boxed W (w.heap.size + 2) 4 (.bool false) := z2.kept Y (by simp);have q4 : Boxed W (w.heap.size + 4) 218 (.map (some (w.heap.size + 3))) := z4.kept Y (by simp);have q5 : Boxed W wr.heap.size 3 (.int .i64 (k : Int)) := z5.kept Y (by simp; omega);have c1 := q1.cell;have hR := q1.frozen;have c2 := q2.cell;have hS := q2.frozen;have c4 := q4.cell;have c5 := q5.cell;have hT : W.cell? ⟨C, 0, none⟩ = some (.int .i64 (sideK t x).1) := by simp [World.cell?, q]
    have hU : W.cell? ⟨C, 1, none⟩ = some (.int .i64 (sideK t x).2) := by simp [World.cell?, q]
    have G := g.out.owns;have HW := hid Y;have HX := hC.out x;have h4 : keyOf Tryz.prog 142 (.agg #[.int .i64 (sideK t x).1, .int .i64 (sideK t x).2]) = some (kE (sideK t x)) := keyE HX.1 HX.2;have I := g.out.has_iff HX;have R : (ownL (T.take k) ++ pre.map fun x => (sideK t x, (k : Int))).map (·.1) = kOf (T.take k) ++ pre.map (sideK t) := by
     rw [List.map_append, oLk, List.map_map]; rfl
    rw [R] at I;have hH := Y.size;have hQ := hid q;have hP := hid O;have HK := hid h4;have f := hid I;have hD := hid R;clear Y q O h4 I R q1 q2 q4 q5;cases hsn : Maps.has M (viewE.lit (sideK t x))
    ·have H : sideK t x ∉ kOf (T.take k) ++ pre.map (sideK t) := fun hq => by
      have := f.out.2 hq;rw [hsn] at this; cases this
     have A := hid H;have h5 := hid hsn;clear H hsn;gi_wp2_with (first
      | (gi_at_lookup; refine wpListIn_lookup_own_ok_int _ rfl _ _ 218 rfl 142 3 .i64 lawE uEI und_I (zeroI _) (w.heap.size + 3) (3 * k + pre.length) M rfl G _ _ rfl HK.out ?_; rw [show Maps.has M (kE (sideK t x)) = false from h5.out]; intro cz h6 hd; clear h6 hd)
      | (gi_at_mapUpdate; refine wpListIn_mapUpdate_own _ rfl _ _ _ 218 rfl 142 3 lawE uEI _ (w.heap.size + 3) (3 * k + pre.length) M rfl G (by unfold maxLen; omega) _ _ _ rfl rfl HK.out _ [] (plainElem_int und_I (WalkArith.wf_i64 (by omega))) ?_; intro w1 hb Z))
     have Y := HW.out;have ha : sideK t x ∉ (ownL (T.take k) ++ pre.map fun x => (sideK t x, (k : Int))).map (·.1) := by rw [hD.out]; exact A.out
     refine ⟨KeepsFrom.of_grownBy Z (fun j e => by cases e; omega), ⟨(Below.refl _ W).grown Z (by omega) (fun j e => by cases e; omega), Z.block _ (by omega) (by simp; omega)⟩,
      ⟨Z.os.trans Y.os, Z.tape.trans Y.tape, Z.output.trans Y.output, Nat.le_trans Y.size Z.size, fun j hj hjn => (Z.block j (Nat.lt_of_lt_of_le hj Y.size) hjn).trans (Y.block j hj hjn)⟩, ⟨M.put (kE (sideK t x)) (.lit (.int .i64 (k : Int))), ?_⟩, ?_⟩
     ·have := g.out.put (i := (k : Int)) HX (fun j hj => absurd (List.mem_map.2 ⟨_, hj, rfl⟩) ha) hb
      unfold Hid;rw [List.map_append, <- List.append_assoc, List.length_append];exact this
     ·unfold Hid
      rw [List.map_append, <- List.append_assoc]
      exact List.nodup_append.2 ⟨Q.out, by simp, fun y hy z hz e => by
           simp at hz; subst hz; subst e; exact A.out hy⟩
    ·have H : sideK t x ∈ kOf (T.take k) ++ pre.map (sideK t) := f.out.1 hsn
     have A := hid H;have h5 := hid hsn;clear H hsn;gi_wp2_with (first
      | (gi_at_lookup; refine wpListIn_lookup_own_ok_int _ rfl _ _ 218 rfl 142 3 .i64 lawE uEI und_I (zeroI _) (w.heap.size + 3) (3 * k + pre.length) M rfl G _ _ rfl HK.out ?_; rw [show Maps.has M (kE (sideK t x)) = true from h5.out]; intro cz h6 hd; clear h6 hd))
     have Y := HW.out;have q1 : Boxed W (w.heap.size + 1) 218 (.map none) := z1.kept Y (by simp);have q2 : Boxed W (w.heap.size + 2) 4 (.bool false) := z2.kept Y (by simp);refine ⟨((KeepsOthers.setCell _ _ _).trans (KeepsOthers.setCell _ _ _)).from _, ⟨rfl, fun hnd => ?_⟩, (q1.set _).other (by omega) _, (q2.other (by omega) _).set _, fun j hj => ?_, by simpa using hH, ?_⟩
     ·rw [List.map_append, <- List.append_assoc] at hnd
      exact (List.nodup_append.1 hnd).2.2 _ A.out _ (by simp) rfl
     ·have hW : W.heap[j]? = some (.deferred (some [])) := (Y.block j (Array.getElem?_eq_some_iff.1 hj).1 (fun e => by cases e; obtain ⟨es, ck, hh, _⟩ := h9.owns; rw [hh] at hj; cases hj)).trans hj
      rw [Below.heap_setCell _ _ _ j (by rintro rfl; rw [show W.heap[w.heap.size + 2]? = _ from q2] at hW; cases hW), Below.heap_setCell _ _ _ j (by rintro rfl; rw [show W.heap[w.heap.size + 1]? = _ from q1] at hW; cases hW)];exact hW
     ·exact ((v.grown Y v.size (fun j e => by cases e; omega)).setCell (by show w.heap.size <= w.heap.size + 1; omega) _).setCell (by show w.heap.size <= w.heap.size + 2; omega) _
   case done =>
    rintro E ys W hE rfl ⟨Y, ⟨M, g⟩, Q⟩ hK;have q1 : Boxed W (w.heap.size + 1) 218 (.map none) := z1.kept Y (by simp);have q2 : Boxed W (w.heap.size + 2) 4 (.bool false) := z2.kept Y (by simp);have q4 : Boxed W (w.heap.size + 4) 218 (.map (some (w.heap.size + 3))) := z4.kept Y (by simp);gi_wp2_with fail;refine ⟨⟨k + 1, _, _, _, _, _, _, _, _, _, _, _, _, _, _, _, _, _, _, _, _, _, _, _, _, _, _, ⟨hlt, ?_, ⟨M, ?_⟩, ⟨q1, q2, q4⟩, v.grown Y v.size (fun j e => by cases e; omega), by have := Y.size; omega, Marks.cons d (fun j hj => ?_) (by omega) hE hK⟩, rfl⟩, ?_⟩
    ·unfold Hid; rw [kOt T k hlt, <- HT.out, <- sKl]; exact Q.out
    ·have e1 : ownL (T.take (k + 1)) = ownL (T.take k) ++ all3.map fun x => (sideK t x, (k : Int)) := by rw [od0 T k hlt, <- HT.out, <- sKl, List.map_map]; rfl
     unfold Hid; rw [e1]; exact g.out
    ·exact (Y.block j (Array.getElem?_eq_some_iff.1 hj).1 (fun e => by cases e; obtain ⟨es, ck, hh, _⟩ := h9.owns; rw [hh] at hj; cases hj)).trans hj
    ·simp [RowKit.intOf]; omega
   case stop =>
    rintro E c' pre W hE hF ⟨⟨rfl, Q⟩, x1, x2, m, hw, s⟩ hK;gi_wp2_with fail;refine lms (Marks.cons d (fun j hj => m j hj) (by omega) hE hK) fun w' hw' => ?_
    have k1 := (hw'.boxed x1).cell;have k2 := (hw'.boxed x2).cell;refine ⟨.tuple #[.map none, .bool false], by simp [results, Tryz.results148, go_sem, k1, k2], ?_⟩;refine ⟨_, rfl, .inr ⟨fun hnd => Q ?_, rfl⟩, s.trans ((hw'.below (by omega)).mono (by omega))⟩;refine List.Sublist.nodup ?_ hnd;have e2 : kOf T = kOf (T.take k) ++ (sOf t ++ kOf (T.drop (k + 1))) := by
     conv => lhs; rw [<- List.take_append_drop k T, List.drop_eq_getElem_cons hlt]
     unfold kOf;rw [List.flatMap_append, List.flatMap_cons, <- HT.out]
    rw [e2, <- sKl];refine List.Sublist.append_left ?_ _;refine List.Sublist.trans (List.Sublist.map _ hF.sublist) (List.sublist_append_left _ _)
  ·have g4 := y4.cell
   have g1 := y1.cell;have hV := y1.frozen;have g2 := y2.cell;have hX := y2.frozen;gi_wp2_with fail;obtain rfl : k = T.length := by omega
   have hJ := hB.setCell (p := ⟨w.heap.size + 1, 0, none⟩) (by show w.heap.size <= w.heap.size + 1; omega) (.map (some (w.heap.size + 3)));have hL := hJ.setCell (p := ⟨w.heap.size + 2, 0, none⟩) (by show w.heap.size <= w.heap.size + 2; omega) (.bool true);have hi : ∀ j : Nat, j ≠ w.heap.size + 1 -> j ≠ w.heap.size + 2 -> ((wr.setCell ⟨w.heap.size + 1, 0, none⟩ (.map (some (w.heap.size + 3)))).setCell ⟨w.heap.size + 2, 0, none⟩ (.bool true)).heap[j]? = wr.heap[j]? := fun j h1 h2 => by
    rw [Below.heap_setCell _ _ _ j h2, Below.heap_setCell _ _ _ j h1]
   have n1 : Boxed ((wr.setCell ⟨w.heap.size + 1, 0, none⟩ (.map (some (w.heap.size + 3)))).setCell ⟨w.heap.size + 2, 0, none⟩ (.bool true)) (w.heap.size + 1) 218 (.map (some (w.heap.size + 3))) := (y1.set _).other (by omega) _;have n2 : Boxed ((wr.setCell ⟨w.heap.size + 1, 0, none⟩ (.map (some (w.heap.size + 3)))).setCell ⟨w.heap.size + 2, 0, none⟩ (.bool true)) (w.heap.size + 2) 4 (.bool true) := (y2.other (by omega) _).set _;have nM : MapL viewE 3 (Lit.int .i64) ((wr.setCell ⟨w.heap.size + 1, 0, none⟩ (.map (some (w.heap.size + 3)))).setCell ⟨w.heap.size + 2, 0, none⟩ (.bool true)) (w.heap.size + 3) (3 * T.length) D (ownL T) := by
    have := (HM.out.kept (grownBy_setCell' wr (w.heap.size + 1) (.map (some (w.heap.size + 3)))) (by simp)).kept (grownBy_setCell' _ (w.heap.size + 2) (.bool true)) (by simp);rw [List.take_length] at this;exact this
   have he := HN.out;rw [List.take_length] at he;refine lms (B := w.heap.size + 5) (h8.kept (fun j hj => ?_)) fun w' hw' => ?_
   ·rw [hi j (by rintro rfl; rw [show wr.heap[w.heap.size + 1]? = _ from y1] at hj; cases hj) (by rintro rfl; rw [show wr.heap[w.heap.size + 2]? = _ from y2] at hj; cases hj)]
    exact hj
   ·have k1 := (hw'.boxed n1).cell
    have k2 := (hw'.boxed n2).cell;refine ⟨.tuple #[.map (some (w.heap.size + 3)), .bool true], by simp [results, Tryz.results148, go_sem, k1, k2], ?_⟩;exact ⟨_, rfl, .inl ⟨he, w.heap.size + 3, D, by omega, rfl, hw'.mapL nM⟩, hL.trans ((hw'.below (by simpa using hz)).mono (by omega))⟩
theorem oc0 (w : World) (V X : Value) (T : List Tri) (Y : RdT w X T) (Z : T.length <= 1000000) (hI : ∀ t ∈ T, InI t.1 /\ InI t.2.1 /\ InI t.2.2) :
 Calls Tryz.prog 148 #[.agg #[V, X]] w (Ret (OPP T w.heap.size) w) :=
 callsIn_wide.1 (oin 6 (by omega) w V X T Y Z hI)
end Go.Proofs.YtmcbeajdloaliaaGreatDoor
namespace Go.Proofs.YtmcbeajdloaliaaGreatDoor
open Go.RowKit Go.Lib Go.Maps
theorem cmm {B : List Edge} {f : Int} : ∀ (n : Nat) (a : Int) (out r : List Int), chase B f n a out = some r -> (∀ x ∈ out, x ∈ B.map (·.1)) -> (∀ x ∈ r, x ∈ B.map (·.1)) /\ r.length = out.length + n := by
 intro n
 induction n with
 | zero => intro a out r h Z; unfold chase at h; cases h; exact ⟨Z, rfl⟩
 | succ n ih =>
   intro a out r h Z;unfold chase at h;cases hx : nxtOf B a with
   | none => rw [hx] at h; cases h
   | some b =>
     rw [hx] at h;dsimp only at h;split at h
     ·cases h
     ·have V : a ∈ B.map (·.1) := by
       cases hm : decide (a ∈ B.map (·.1)) with
       | true => exact of_decide_eq_true hm
       | false => rw [nxtOf_none.2 (of_decide_eq_false hm)] at hx; cases hx
      obtain ⟨Y, X⟩ := ih b (out ++ [a]) r h (fun x hx => by
       rcases List.mem_append.1 hx with h | h
       ·exact Z x h
       ·simp at h; subst h; exact V)
      exact ⟨Y, by rw [X]; simp; omega⟩
theorem oLm {E : List Edge} : (∀ x ∈ oLL E, x ∈ E.map (·.1)) /\ (oLL E).length <= E.length := by
 unfold oLL;split
 ·cases h : chase (bOf E) (lSS (bOf E)) (bOf E).length (lSS (bOf E)) [] with
  | none => simp
  | some r =>
    obtain ⟨Z, Y⟩ := cmm _ _ _ _ h (by simp);refine ⟨fun x hx => ?_, ?_⟩
    ·obtain ⟨s, X, rfl⟩ := List.mem_map.1 (Z x hx)
     exact List.mem_map.2 ⟨s, (mem_bordOf.1 X).1, rfl⟩
    ·simp only [Option.getD_some, Y]
     have : (bOf E).length <= E.length := List.length_filter_le _ _;simpa using this
 ·simp
theorem kOl (T : List Tri) : (kOf T).length = 3 * T.length := by
 unfold kOf
 induction T with
 | nil => rfl
 | cons t T ih => rw [List.flatMap_cons, List.length_append, ih]; simp [sOf]; omega
theorem kOm {T : List Tri} {s : Edge} (h : s ∈ kOf T) : ∃ t ∈ T, s.1 ∈ idxOf t /\ s.2 ∈ idxOf t := by
 unfold kOf at h;obtain ⟨t, Y, Z⟩ := List.mem_flatMap.1 h;refine ⟨t, Y, ?_⟩;simp [sOf] at Z;rcases Z with rfl | rfl | rfl <;> simp [idxOf]
structure MeshIn (P : List PtQ) (T : List Tri) (k : Nat) : Prop where
 kpos : 0 < k
 klim : k <= 2000
 sz : ∀ p ∈ P, SzP k p
 plen : P.length <= 400
 tlen : T.length <= 800
 idx : ∀ t ∈ T, ∀ x ∈ idxOf t, 0 <= x /\ x < P.length
theorem iT0 (x y z : Value) (w : World) : (Instr.index 70 (.agg #[x, y, z]) (.int .i64 0)).run Tryz.prog w = .ok x w := by kernel_rfl
theorem iT1 (x y z : Value) (w : World) : (Instr.index 70 (.agg #[x, y, z]) (.int .i64 1)).run Tryz.prog w = .ok y w := by kernel_rfl
theorem iT2 (x y z : Value) (w : World) : (Instr.index 70 (.agg #[x, y, z]) (.int .i64 2)).run Tryz.prog w = .ok z w := by kernel_rfl
def usedL (T : List Tri) (k j : Nat) : List Int := (T.take k).flatMap idxOf ++ ((T[k]?.map idxOf).getD []).take j
theorem uLn (T : List Tri) (k : Nat) (h : k < T.length) : usedL T k 3 = usedL T (k + 1) 0 := by
 unfold usedL;rw [List.getElem?_eq_getElem h, List.take_succ_eq_append_getElem h, List.flatMap_append];simp [idxOf]
theorem uLs (T : List Tri) (k j : Nat) (h : k < T.length) (Z : j < 3) : usedL T k (j + 1) = usedL T k j ++ [(idxOf T[k])[j]'(by simpa [idxOf] using Z)] := by
 unfold usedL;rw [List.getElem?_eq_getElem h];simp only [Option.map_some, Option.getD_some];rw [List.take_succ_eq_append_getElem (by simpa [idxOf] using Z), List.append_assoc]
theorem uLa (T : List Tri) : usedL T T.length 0 = T.flatMap idxOf := by unfold usedL; simp
def UsedM (w : World) (b n : Nat) (l : List Int) : Prop := ∃ D : DataW Unit, MapL viewI 4 Lit.bool w b n D (l.map fun x => (x, true)) /\ Maps.size D = (distL l).length
theorem way (w : World) (vp vt : Value) (P : List PtQ) (T : List Tri) (k : Nat) (hp : RdP w vp (strP P)) (M : RdT w vt T) (hm : MeshIn P T k) (hg : Good w) :
 Calls Tryz.prog 109 #[.agg #[vp, vt]] w (Ret (fun r _ => r = .bool (wBB P T)) w) := by
 have z1 := @run_makeMap Tryz.prog;have hw := hp;have hy := M;obtain ⟨pp, cp, rfl, hR, z3, _⟩ := hw.open;obtain ⟨pt, ct, rfl, z4, z6, hA⟩ := hy.open;rw [sPl] at hp hR ⊢;have HP := hid hp;have HT := hid M;have d := hid hm;have hK := hid hA;have z2 := hm.plen;have z5 := hm.tlen;clear hp M hw hy hm hA;have ha : Hid (∀ t ∈ T, InI t.1 /\ InI t.2.1 /\ InI t.2.2) := fun t h => by
  have z := d.out.idx t h;have a1 := z t.1 (by simp [idxOf]);have a2 := z t.2.1 (by simp [idxOf]);have a3 := z t.2.2 (by simp [idxOf]);exact ⟨⟨by omega, by omega⟩, ⟨by omega, by omega⟩, by omega, by omega⟩
 have l := World.alloc_heap_new w (.cells #[.slice pp P.length cp, .slice pt T.length ct] 41);go_enter Tryz.func109, Tryz.ntmps109;go_wp2_with fail;obtain ⟨g, q⟩ := zex (w.alloc (.cells #[.slice pp P.length cp, .slice pt T.length ct] 41));rw [<- q] at l ⊢;have a : Below w.heap.size w g := by rw [q]; exact zal _ _
 have z7 : g.heap.size = w.heap.size + 1 := by rw [q]; simp
 have y0 : g.cell? ⟨w.heap.size, 0, none⟩ = some (.slice pp P.length cp) := by simp [World.cell?, l]
 have y1 : g.cell? ⟨w.heap.size, 1, none⟩ = some (.slice pt T.length ct) := by simp [World.cell?, l]
 clear q l;refine (oc0 g _ _ T (RdC.below HT.out a) (by omega) ha.out).mono ?_;rintro e Z ⟨_, rfl, hO, J⟩;have v : Below w.heap.size w Z := a.trans (J.mono (by omega));have hN := hg.below v;have z8 : g.heap.size <= Z.heap.size := J.size;have x0 := zcq J (by show w.heap.size < g.heap.size; omega) y0;have x1 := zcq J (by show w.heap.size < g.heap.size; omega) y1;clear y0 y1 J a;rcases hO with ⟨G, bo, D, hY, rfl, h0⟩ | ⟨G, rfl⟩
 ·have hd := hid G
  have hH := hid h0;have hM := h0.owns.lt;clear G h0;have hV : (Z.alloc (.map #[] 0)).cell? ⟨w.heap.size, 1, none⟩ = some (.slice pt T.length ct) := cal _ x1;have A : Hid (w.heap.size < Z.heap.size) := by unfold Hid; omega
  go_wp2_with fail;obtain ⟨W2, L⟩ := zex (Z.alloc (.map #[] 0));have ho : Below Z.heap.size Z W2 := by rw [L]; exact zal _ _
  have hk : Hid (UsedM W2 Z.heap.size 0 (usedL T 0 0)) := by
   rw [L];exact ⟨_, by simpa [usedL] using MapL.made (β := Bool) Z viewI 4 Lit.bool, by simp [usedL, distL, Maps.size]⟩
  have hC : Z.heap.size + 1 <= W2.heap.size := by rw [L]; simp
  rw [<- L];clear L hV;go_loopw [23] (fun t23 wr => ∃ m : Nat, m <= T.length /\ t23 = .int .i64 (m : Int) /\ Hid (UsedM wr Z.heap.size (3 * m) (usedL T m 0)) /\ Below Z.heap.size Z wr /\ Z.heap.size + 1 <= wr.heap.size) (fun t23 _ => T.length - (RowKit.intOf t23).toNat)
  case atStart => exact ⟨0, Nat.zero_le _, rfl, hk, ho, hC⟩
  case round =>
   obtain ⟨m, hm, rfl, HU, N, hz⟩ := hrel;clear hk ho hC;rcases Nat.lt_or_ge m T.length with H | hZ
   ·obtain ⟨b, off, rfl, h3, I⟩ := hK.out (List.ne_nil_of_length_pos (by omega))
    obtain ⟨e0, e1, e2⟩ := I m H;have S : Below w.heap.size w wr := v.trans (N.mono (by have := A.out; omega));have d0 := zcq S h3 e0;have d1 := zcq S h3 e1;have d2 := zcq S h3 e2;obtain ⟨t, M⟩ := zex (T[m]);rw [<- M] at d0 d1 d2;have hh := hid M;have hX : (m : Int) < (T.length : Int) := by omega
    clear I e0 e1 e2 M S;have i0 := iT0;have i1 := iT1;have i2 := iT2;go_wp2_with fail;obtain ⟨wo, hU⟩ := zex (wr : World);subst hU;obtain ⟨W3, K⟩ := zex (wo.alloc (.cells #[.int .i64 t.1, .int .i64 t.2.1, .int .i64 t.2.2] 70));have hl : Hid (UsedM W3 Z.heap.size (3 * m + 0) (usedL T m 0)) := by
     obtain ⟨B, z, h2⟩ := HU.out;rw [K];exact ⟨B, z.kept (World.grownBy_alloc _ _ none) (by simp), h2⟩
    have hq : Below Z.heap.size Z W3 := by rw [K]; exact N.alloc (by omega) _
    have hD : Z.heap.size + 1 <= W3.heap.size := by rw [K]; simp; omega
    rw [<- K];clear K HU N hz d0 d1 d2;go_loopw [28] (fun t28 wr => ∃ j : Nat, j <= 3 /\ t28 = .int .i64 (j : Int) /\ Hid (UsedM wr Z.heap.size (3 * m + j) (usedL T m j)) /\ Below Z.heap.size Z wr /\ Z.heap.size + 1 <= wr.heap.size) (fun t28 _ => 3 - (RowKit.intOf t28).toNat)
    case atStart => exact ⟨0, Nat.zero_le _, rfl, hl, hq, hD⟩
    case round =>
     obtain ⟨j, hj, rfl, ⟨B, U, Q⟩, N, hz⟩ := hrel;clear hl hq hD;have Y := hid U;have he := hid Q;clear U Q;rcases Nat.lt_or_ge j 3 with o | o
     ·obtain ⟨x, hx⟩ := zex ((idxOf t)[j]'(by simpa [idxOf] using o))
      have h6 : InI x := by
       obtain ⟨a1, a2, a3⟩ := ha.out t (by rw [hh.out]; exact List.getElem_mem H);rcases (by omega : j = 0 \/ j = 1 \/ j = 2) with rfl | rfl | rfl <;> (subst hx; assumption)
      have hf : Hid (usedL T m (j + 1) = usedL T m j ++ [x]) := by
       unfold Hid;rw [uLs T m j H o, hx];simp only [hh.out]
      have hG : Hid (keyOf Tryz.prog 3 (.int .i64 x) = some (kI x)) := keyI h6;have hb : Hid ((Instr.index 70 (.agg #[.int .i64 t.1, .int .i64 t.2.1, .int .i64 t.2.2]) (.int .i64 (j : Int))).run Tryz.prog wr = .ok (.int .i64 x) wr) := by
       rcases (by omega : j = 0 \/ j = 1 \/ j = 2) with rfl | rfl | rfl
       ·subst hx; exact iT0 _ _ _ _
       ·subst hx; exact iT1 _ _ _ _
       ·subst hx; exact iT2 _ _ _ _
      have z0 := hb.out;have hW : (j : Int) < 3 := by omega
      clear hx hb i0 i1 i2;go_wp2_with (at_mapUpdate; refine wpList_mapUpdate_own _ rfl _ _ _ 221 rfl 3 4 lawI uIB _ Z.heap.size (3 * m + j) B rfl Y.out.owns (by unfold maxLen; omega) _ _ _ rfl rfl hG.out _ [] (plainElem_bool und_B true) ?_; intro w2 h5 R);go_roundw
      case rel =>
       refine ⟨j + 1, o, by go_num, ⟨B.put (kI x) (.lit (.bool true)), ?_, ?_⟩, N.grown R (by omega) (fun i e => by cases e; omega), by have := R.size; omega⟩
       ·have := Y.out.put (V := viewI) (s := x) (i := true) h6 (fun i hi => by
         simp at hi; obtain ⟨_, _, _, e⟩ := hi; rw [e]) h5
        rw [hf.out, List.map_append];exact this
       ·have := Y.out.size_put (V := viewI) (s := x) h6 (.lit (.bool true)) (by rw [he.out, List.map_map]; simp [Function.comp_def])
        rw [hf.out];rw [List.map_map] at this;show Maps.size (B.put (viewI.lit x) (.lit (.bool true))) = _;simpa [Function.comp_def] using this
      case measure => simp [RowKit.intOf]; omega
     ·obtain rfl : j = 3 := by omega
      go_wp2_with fail;go_roundw
      case rel => exact ⟨m + 1, by omega, by go_num, ⟨B, by rw [<- uLn T m H]; exact Y.out, by rw [<- uLn T m H]; exact he.out⟩, N, hz⟩
      case measure => simp [RowKit.intOf]; omega
   ·obtain rfl : m = T.length := by omega
    obtain ⟨B, U, Q⟩ := HU.out;rw [uLa] at U Q;have X := U.owns.len uIB 3;rw [Q] at X;have Y := hid U;have hv : MapL viewE 3 (Lit.int .i64) wr bo (3 * T.length) D (ownL T) := hH.out.below N hM;have hQ : Good wr := hN.below N;have h7 := zcq N (by show w.heap.size < Z.heap.size; have := A.out; omega) x0;have h8 := zcq N (by show w.heap.size < Z.heap.size; have := A.out; omega) x1;have hL : Below w.heap.size w wr := v.trans (N.mono (by have := A.out; omega));have hc := hid hv;have hS : (usedN T : Int) = ((distL (T.flatMap idxOf)).length : Int) := rfl;obtain ⟨un, C⟩ := zex ((distL (T.flatMap idxOf)).length);rw [<- C] at X;have hn : Hid (un = usedN T) := C;clear HU U Q hv x0 x1 hS C;have hE : Hid (∀ s ∈ (ownL T).map (·.1), (0 <= s.1 /\ s.1 < 1000000) /\ (0 <= s.2 /\ s.2 < 1000000)) := fun s hs => by
     rw [oLk] at hs;obtain ⟨t, M, z, h2⟩ := kOm hs;have a1 := d.out.idx t M _ z;have a2 := d.out.idx t M _ h2;omega
    go_wp2_with fail;refine (oe0 wr _ _ bo (3 * T.length) D (ownL T) hc.out (by rw [oLk]; exact hd.out) (by omega) (by
     have := congrArg List.length (oLk T); rw [List.length_map, kOl] at this; omega) hE.out).mono ?_
    rintro e w5 ⟨_, rfl, ⟨sv, rfl, n, _⟩, O⟩;rw [oLk] at n ⊢;have f := n;obtain ⟨ps, cs, rfl, _, _, _⟩ := f.open;clear f;have z9 := zcq O (World.block_lt_of_cell? wr _ h7) h7;have za := zcq O (World.block_lt_of_cell? wr _ h8) h8;have hP : Good w5 := hQ.below O;have y : Below w.heap.size w w5 := zbt hL O;have hr : MapL viewI 4 Lit.bool w5 Z.heap.size (3 * T.length) B _ := Y.out.below O Y.out.owns.lt;have h4 := hr.owns.len uIB 3;have e5 : Maps.size B = un := by
     have h := X.symm.trans (Y.out.owns.len uIB 3);simp at h;exact (Int.ofNat_inj.1 h).symm
    rw [e5] at h4;have hJ := hid n;clear X h7 h8 O hr e5 n N Y hc;cases hemp : (oLL (kOf T)).isEmpty
    ·rcases (by omega : un = P.length \/ ¬ un = P.length) with hu | hu
     ·have hT : ((un : Int) == (P.length : Int)) = true := by rw [beq_iff_eq]; omega
      have hF : Hid (OnceOK P (oLL (kOf T)) k) := by
       obtain ⟨m1, m2⟩ := oLm (E := kOf T);rw [kOl] at m2;refine ⟨?_, by omega, by omega, fun x hx => ?_, d.out.kpos, d.out.klim, d.out.sz⟩
       ·refine List.length_pos_iff.2 fun e => ?_
        rw [e] at hemp; cases hemp
       ·obtain ⟨s, hs, rfl⟩ := List.mem_map.1 (m1 x hx)
        obtain ⟨t, M, z, _⟩ := kOm hs;exact d.out.idx t M _ z
      have c : Hid (onceB P (oLL (kOf T)) = wBB P T) := by
       unfold Hid wBB;rw [decide_eq_true hd.out, hemp, decide_eq_true (by rw [<- hn.out]; exact hu)]; rfl
      have h9 := hid hemp;clear hemp;go_wp2_with fail;refine zR (of0 w5 _ _ _ P (oLL (kOf T)) k (RdC.below HP.out y) hJ.out hF.out hP) fun w6 hb6 => ?_;rw [c.out];go_wp2_with fail;go_ret;exact ⟨_, rfl, rfl, (zbt y hb6)⟩
     ·have hT : ((un : Int) == (P.length : Int)) = false := by rw [beq_eq_false_iff_ne]; omega
      have c : Hid (false = wBB P T) := by
       unfold Hid wBB;rw [decide_eq_false (p := usedN T = P.length) (by rw [<- hn.out]; exact hu)]; simp
      have h9 := hid hemp;clear hemp;go_wp2_with fail;go_ret;exact ⟨_, rfl, congrArg Value.bool c.out, y⟩
    ·have c : Hid (false = wBB P T) := by unfold Hid wBB; rw [hemp]; simp
     clear hemp;go_wp2_with fail;go_ret;exact ⟨_, rfl, congrArg Value.bool c.out, y⟩
 ·have c : Hid (false = wBB P T) := by unfold Hid wBB; rw [decide_eq_false G]; rfl
  clear G;go_wp2_with fail;go_ret;exact ⟨_, rfl, congrArg Value.bool c.out, v⟩
structure MeshOK (P : List PtQ) (T : List Tri) (k : Nat) : Prop extends MeshIn P T k where
 klim2 : k <= 200
 some : T ≠ []
 apart : P.Nodup
 turns : ∀ t ∈ T, 0 < turnZ (P[t.1.toNat]?.getD (0, 0)) (P[t.2.1.toNat]?.getD (0, 0)) (P[t.2.2.toNat]?.getD (0, 0))
 whole : wBB P T = true
theorem SzP.right {k : Nat} {p : PtQ} (h : SzP k p) (Z : k <= 200) : eNm (allQ [RS p.1, RS p.2]) = 0 := by
 unfold allQ;simp only [List.all_cons, List.all_nil, Bool.and_true];rw [Rlt, Rlt, rQR (h.1.mono Z), rQR (h.2.mono Z)];rfl
theorem SzP.inS {k : Nat} {p : PtQ} (h : SzP k p) (Z : 0 < k) (Y : k <= 200) : InS (RS p.1, RS p.2) := by
 have X := h.1.size Z;have V := h.2.size Z;constructor
 ·show (RS p.1).size <= maxLen
  unfold maxLen; omega
 ·show (RS p.2).size <= maxLen
  unfold maxLen; omega
theorem sPg (P : List PtQ) (i : Nat) (h : i < P.length) : (strP P)[i]'(by rw [sPl]; exact h) = (RS P[i].1, RS P[i].2) := by simp [strP]
theorem sPi {p q : PtQ} (h : (RS p.1, RS p.2) = (RS q.1, RS q.2)) : p = q := by
 simp at h;exact Prod.ext (Rij h.1) (Rij h.2)
theorem ca0 (w : World) (vp vt : Value) (P : List PtQ) (T : List Tri) (k : Nat) (hp : RdP w vp (strP P)) (ht : RdT w vt T) (n : MeshOK P T k) (hg : Good w) :
 Calls Tryz.prog 61 #[.agg #[vp, vt]] w (Ret (fun r _ => r = .int .i64 0) w) := by
 have zf := @run_makeMap Tryz.prog;have hq := hp;have hs := ht;obtain ⟨pp, cp, rfl, z4, J, hr⟩ := hq.open;obtain ⟨pt, ct, rfl, zh, zj, hv⟩ := hs.open;rw [sPl] at hp z4 ⊢;have HP := hid hp;have HT := hid ht;have Q := hid n;have h8 := hid hr;have hN := hid hv;have zg := n.plen;have zi := n.tlen;have zk : 0 < T.length := List.length_pos_iff.2 n.some;have t1 : ((T.length : Int) == 0) = false := by rw [beq_eq_false_iff_ne]; omega
 have t2 : decide (800 < (T.length : Int)) = false := decide_eq_false (by omega);have t3 : decide (400 < (P.length : Int)) = false := decide_eq_false (by omega);clear hp ht hq hs n hv hr;go_enter Tryz.func61, Tryz.ntmps61;go_wp2_with fail;obtain ⟨W0, N⟩ := zex ((w.alloc (.cells #[.slice pp P.length cp, .slice pt T.length ct] 41)).alloc (.map #[] 0));have h9 : Below w.heap.size w W0 := by rw [N]; exact zal2 _ _ _
 have hw : w.heap.size + 2 <= W0.heap.size := by rw [N]; simp
 have y0 : W0.cell? ⟨w.heap.size, 0, none⟩ = some (.slice pp P.length cp) := by rw [N]; exact cal _ (by rw [World.cell?_alloc_at _ _ _ _ rfl]; rfl)
 have y1 : W0.cell? ⟨w.heap.size, 1, none⟩ = some (.slice pt T.length ct) := by rw [N]; exact cal _ (by rw [World.cell?_alloc_at _ _ _ _ rfl]; rfl)
 have hn : MapL (β := Bool) viewP 4 Lit.bool W0 (w.heap.size + 1) 0 (.map []) [] := by
  rw [N];have := MapL.made (β := Bool) (w.alloc (.cells #[.slice pp P.length cp, .slice pt T.length ct] 41)) viewP 4 Lit.bool;simpa using this
 rw [<- N];clear N t1 t2 t3;go_loopw [32] (fun t32 wr => ∃ (m : Nat) (D : DataW Unit), m <= P.length /\ t32 = .int .i64 (m : Int) /\ Hid (MapL viewP 4 Lit.bool wr (w.heap.size + 1) m D (((strP P).take m).map fun x => (x, true))) /\ Below w.heap.size w wr /\ w.heap.size + 2 <= wr.heap.size /\
  (wr.cell? ⟨w.heap.size, 0, none⟩ = some (.slice pp P.length cp) /\ wr.cell? ⟨w.heap.size, 1, none⟩ = some (.slice pt T.length ct))) (fun t32 _ => P.length - (RowKit.intOf t32).toNat)
 case atStart => exact ⟨0, _, Nat.zero_le _, rfl, hid (by simpa using hn), h9, hw, y0, y1⟩
 case round =>
  obtain ⟨m, D, n, rfl, HD, Y, hz, x0, x1⟩ := hrel;clear hn h9 hw y0 y1;rcases Nat.lt_or_ge m P.length with S | hh
  ·obtain ⟨b, off, rfl, M, X⟩ := h8.out (by intro e; have h := sPl P; rw [e] at h; simp at h; omega)
   obtain ⟨v, o⟩ := X m (by rw [sPl]; exact S);rw [sPg P m S] at v o;obtain ⟨p, J⟩ := zex (P[m]);rw [<- J] at v o;dsimp only at v o;have d0 := zcq Y M v;have d1 := zcq Y M o;have G : SzP k p := by rw [J]; exact Q.out.sz _ (List.getElem_mem S)
   have y := G.inS Q.out.kpos Q.out.klim2;have h5 := hid y;have h6 : Hid (keyOf Tryz.prog 73 (.agg #[.string (RS p.1), .string (RS p.2)]) = some (kP (RS p.1, RS p.2))) := keyP y.1 y.2;have hH := hid (G.right Q.out.klim2);have zc := G.1.size Q.out.kpos;have zd := G.2.size Q.out.kpos;have ze := Q.out.klim2;have hM : Hid ((strP P).take (m + 1) = (strP P).take m ++ [(RS p.1, RS p.2)]) := by
    unfold Hid;rw [List.take_succ_eq_append_getElem (by rw [sPl]; exact S), sPg P m S, J]
   have h7 : Hid ((RS p.1, RS p.2) ∉ (((strP P).take m).map fun x => (x, true)).map (·.1)) := fun hmm' => by
    rw [List.map_map] at hmm';have ho : (RS p.1, RS p.2) ∈ (strP P).take m := by simpa [Function.comp_def] using hmm'
    obtain ⟨i, hi, he⟩ := List.getElem_of_mem ho;rw [List.length_take, sPl] at hi;rw [List.getElem_take, sPg P i (by omega)] at he;have := sPi he;rw [J] at this;have := (List.getElem_inj Q.out.apart).1 this;omega
   have hl : (m : Int) < (P.length : Int) := by omega
   clear X v o J y G;go_wp2_with fail;obtain ⟨W3, L⟩ := zex (wr.alloc (.cells #[.string (RS p.1), .string (RS p.2)] 73));have hf : Good W3 := by rw [L]; exact (hg.below Y).alloc _
   have ha : Below wr.heap.size wr W3 := by rw [L]; exact zal _ _
   have hx : wr.heap.size < W3.heap.size := by rw [L]; simp
   have r0 : W3.heap[wr.heap.size]? = some (.cells #[.string (RS p.1), .string (RS p.2)] 73) := by rw [L]; exact World.alloc_heap_new _ _
   rw [<- L];clear L d0 d1;refine zR (cPa (RS p.1) (RS p.2) (by omega) (by omega) W3 hf) fun w4 hb4 => ?_;rw [hH.out];have K : Below wr.heap.size wr w4 := zbt ha hb4;have r4 := (hb4.block _ hx).trans r0;have c0 : w4.cell? ⟨wr.heap.size, 0, none⟩ = some (.string (RS p.1)) := by simp [World.cell?, r4]
   have c1 : w4.cell? ⟨wr.heap.size, 1, none⟩ = some (.string (RS p.2)) := by simp [World.cell?, r4]
   have hc : MapL viewP 4 Lit.bool w4 (w.heap.size + 1) m D (((strP P).take m).map fun x => (x, true)) := HD.out.below K (by omega);have A := hid hc;have z0 := zcq K (by show w.heap.size < wr.heap.size; omega) x0;have z1 := zcq K (by show w.heap.size < wr.heap.size; omega) x1;have hX : Below w.heap.size w w4 := zbt Y K;have zm := K.size;clear r0 r4 hb4 hc K ha hx x0 x1 HD Y hf;go_wp2_with (first
    | (at_lookup; refine wLl _ rfl _ _ 172 rfl 73 4 lawP uPB und_B (zeroB _) (w.heap.size + 1) m D rfl A.out.owns _ _ rfl h6.out ?_; intro cz hd
       obtain rfl : cz = false := by
        have h1 := hd.symm.trans (A.out.not_at (V := viewP) h5.out h7.out _);simp at h1;exact h1
       clear hd)
    | (at_mapUpdate; refine wpList_mapUpdate_own _ rfl _ _ _ 172 rfl 73 4 lawP uPB _ (w.heap.size + 1) m D rfl A.out.owns (by unfold maxLen; omega) _ _ _ rfl rfl h6.out _ [] (plainElem_bool und_B true) ?_; intro w5 d Z))
   go_roundw
   case rel =>
    refine ⟨m + 1, D.put (kP (RS p.1, RS p.2)) (.lit (.bool true)), S, by go_num, ?_, hX.grown Z (by omega) (fun i e => by cases e; omega), by have := Z.size; omega, ?_, ?_⟩
    ·have := A.out.put (V := viewP) (s := (RS p.1, RS p.2)) (i := true) h5.out (fun i hi => absurd (List.mem_map.2 ⟨_, hi, rfl⟩) h7.out) d
     unfold Hid;rw [hM.out, List.map_append];exact this
    ·exact (World.cell?_of_block (a := ⟨w.heap.size, 0, none⟩) (Z.block _ (by show w.heap.size < w4.heap.size; omega) (by simp))).trans z0
    ·exact (World.cell?_of_block (a := ⟨w.heap.size, 1, none⟩) (Z.block _ (by show w.heap.size < w4.heap.size; omega) (by simp))).trans z1
   case measure => simp [RowKit.intOf]; omega
  ·obtain rfl : m = P.length := by omega
   have hk := hg.below Y;have I := hid Y;clear n HD hh Y;go_wp2_with fail;obtain ⟨B, z5⟩ := zex (wr : World);subst z5;go_loopw [48] (fun t48 wr => ∃ m : Nat, m <= T.length /\ t48 = .int .i64 (m : Int) /\ Below B.heap.size B wr) (fun t48 _ => T.length - (RowKit.intOf t48).toNat)
   case atStart => exact ⟨0, Nat.zero_le _, rfl, Below.refl _ _⟩
   case round =>
    obtain ⟨m, n, rfl, Y⟩ := hrel;have hy := Y.size;have z0 := zcq Y (by show w.heap.size < B.heap.size; omega) x0;have z1 := zcq Y (by show w.heap.size < B.heap.size; omega) x1;rcases Nat.lt_or_ge m T.length with S | hh
    ·obtain ⟨b, off, rfl, M, X⟩ := hN.out (List.ne_nil_of_length_pos (by omega))
     obtain ⟨v, o, e2⟩ := X m S;have g : b < B.heap.size := Nat.lt_of_lt_of_le M I.out.size;have d0 := zcq Y g ((zcq I.out M v :));have d1 := zcq Y g ((zcq I.out M o :));have d2 := zcq Y g ((zcq I.out M e2 :));have O := Q.out.idx T[m] (List.getElem_mem S);have E := Q.out.turns T[m] (List.getElem_mem S);obtain ⟨⟨h0, h3, h4⟩, hu⟩ : ∃ t, t = T[m] := ⟨_, rfl⟩;rw [<- hu] at d0 d1 d2 O E;dsimp only at d0 d1 d2 E;obtain ⟨hO, hP⟩ := O h0 (by simp [idxOf]);obtain ⟨hQ, hR⟩ := O h3 (by simp [idxOf]);obtain ⟨hS, hT⟩ := O h4 (by simp [idxOf]);obtain ⟨c, rfl⟩ : ∃ q : Nat, h0 = (q : Int) := ⟨h0.toNat, by omega⟩;obtain ⟨q1, rfl⟩ : ∃ q : Nat, h3 = (q : Int) := ⟨h3.toNat, by omega⟩;obtain ⟨q2, rfl⟩ : ∃ q : Nat, h4 = (q : Int) := ⟨h4.toNat, by omega⟩;simp only [Int.toNat_natCast] at E;have g0 : c < P.length := by omega
     have g1 : q1 < P.length := by omega
     have g2 : q2 < P.length := by omega
     rw [List.getElem?_eq_getElem g0, List.getElem?_eq_getElem g1, List.getElem?_eq_getElem g2] at E;simp only [Option.getD_some] at E;obtain ⟨bp, op, rfl, f, l⟩ := h8.out (by intro e; have h := sPl P; rw [e] at h; simp at h; omega);have H : bp < B.heap.size := Nat.lt_of_lt_of_le f I.out.size;have pc : ∀ i, (h : i < P.length) -> wr.cell? ⟨bp, op + i * 2, none⟩ = some (.string (RS P[i].1)) /\ wr.cell? ⟨bp, op + i * 2 + 1, none⟩ = some (.string (RS P[i].2)) := fun i h => by
      obtain ⟨h1, h2⟩ := l i (by rw [sPl]; exact h);rw [sPg P i h] at h1 h2;exact ⟨(zcq Y H ((zcq I.out f h1 :)) :), (zcq Y H ((zcq I.out f h2 :)) :)⟩
     obtain ⟨hA, hC⟩ := pc c g0;obtain ⟨hD, hE⟩ := pc q1 g1;obtain ⟨hF, hG⟩ := pc q2 g2;have s0 := Q.out.sz _ (List.getElem_mem g0);have s1 := Q.out.sz _ (List.getElem_mem g1);have s2 := Q.out.sz _ (List.getElem_mem g2);generalize P[c] = p0 at *;generalize P[q1] = p1 at *;generalize P[q2] = p2 at *;have hJ := hid s0;have hK := hid s1;have hL := hid s2;have z3 := Q.out.kpos;have z2 := Q.out.klim;have hl : (m : Int) < (T.length : Int) := by omega
     have f0 : (c : Int) < (P.length : Int) := by omega
     have f1 : (q1 : Int) < (P.length : Int) := by omega
     have f2 : (q2 : Int) < (P.length : Int) := by omega
     clear X v o e2 hu O pc l s0 s1 s2 hO hP hQ hR hS hT x0 x1;go_wp2_with fail;obtain ⟨C, z⟩ := zex (wr.alloc (.cells #[.int .i64 c, .int .i64 q1, .int .i64 q2] 70));have r5 : C.heap[wr.heap.size]? = some (.cells #[.int .i64 c, .int .i64 q1, .int .i64 q2] 70) := by rw [z]; exact World.alloc_heap_new _ _
     have U : Below wr.heap.size wr C := by rw [z]; exact zal _ _
     rw [<- z];have hU : C.cell? ⟨wr.heap.size, 0, none⟩ = some (.int .i64 c) := by simp [World.cell?, r5]
     have hV : C.cell? ⟨wr.heap.size, 1, none⟩ = some (.int .i64 q1) := by simp [World.cell?, r5]
     have hW : C.cell? ⟨wr.heap.size, 2, none⟩ = some (.int .i64 q2) := by simp [World.cell?, r5]
     have v0 := zcq U (by show w.heap.size < wr.heap.size; omega) z0;have R : bp < wr.heap.size := Nat.lt_of_lt_of_le H hy;have z6 := zcq U R hA;have z7 := zcq U R hC;have z8 := zcq U R hD;have z9 := zcq U R hE;have za := zcq U R hF;have zb := zcq U R hG;have hZ : Good C.drew := ((hk.below Y).below U).drewN 1;have hb : Below B.heap.size B C := Y.trans (U.mono hy);clear z r5 d0 d1 d2 hA hC hD hE hF hG U z0 z1;have i0 := iT0;have i1 := iT1;have i2 := iT2;go_loop [53] (fun t53 => ∃ j : Nat, j <= 3 /\ t53 = .int .i64 (j : Int)) (fun t53 => 3 - (RowKit.intOf t53).toNat)
     case atStart => exact ⟨0, Nat.zero_le _, rfl⟩
     case round =>
      obtain ⟨j, hj, rfl⟩ := hrel;rcases (by omega : j = 0 \/ j = 1 \/ j = 2 \/ j = 3) with rfl | rfl | rfl | rfl
      ·go_wp2_with fail
       go_round
       case rel => exact ⟨1, by omega, rfl⟩
       case measure => simp [RowKit.intOf]
      ·go_wp2_with fail
       go_round
       case rel => exact ⟨2, by omega, rfl⟩
       case measure => simp [RowKit.intOf]
      ·go_wp2_with fail
       go_round
       case rel => exact ⟨3, by omega, rfl⟩
       case measure => simp [RowKit.intOf]
      ·clear i0 i1 i2
       go_wp2_with fail
       go_still_tail 18, (by kernel_rfl)
       change wpList _ _ _ _ _ C.drew;go_wp2_with fail;refine zR (tb0 p0 p1 p2 k z3 z2 hJ.out hK.out hL.out C.drew hZ) fun w7 hb7 => ?_;have hY : Below B.heap.size B w7 := hb.trans (((bdN C 1).trans hb7).mono hb.size);generalize turnZ p0 p1 p2 = tz at *;have zl : ¬ tz <= 0 := by omega
       clear hb7 v0 z6 z7 z8 z9 za zb hU hV hW;go_wp2_with fail;go_roundw
       case rel => exact ⟨m + 1, by omega, by go_num, hY⟩
       case measure => simp [RowKit.intOf]; omega
    ·obtain rfl : m = T.length := by omega
     clear x0 x1;go_wp2_with fail;refine zR (way _ _ _ P T k (RdC.below (RdC.below HP.out I.out) Y) (RdC.below (RdC.below HT.out I.out) Y) Q.out.toMeshIn (hk.below Y)) fun w6 hb6 => ?_;rw [Q.out.whole];go_wp2_with fail;go_ret;exact ⟨_, rfl, rfl, ((zbt I.out Y)).trans (hb6.mono (by have := I.out.size; omega))⟩
end Go.Proofs.YtmcbeajdloaliaaGreatDoor
