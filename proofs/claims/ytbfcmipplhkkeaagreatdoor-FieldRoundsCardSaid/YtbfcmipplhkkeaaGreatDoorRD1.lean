import Derived.Test.YtbfcmipplhkkeaaGreatDoorRB2
/- Integer.divide: the first parts. -/
set_option maxHeartbeats 4000000
set_option maxRecDepth 100000
namespace Go.Proofs.YtbfcmipplhkkeaaGreatDoor
open Go.RowKit Go.Shelf Go.Lib
attribute [local go_sem] Oper.semAt_some
def QR (q r : Nat) (v : Value) (w' : World) : Prop := ∃ vq vr, v = .tuple #[vq, vr] /\ Rd .u64 w' vq (lm B9 q) /\ Rd .u64 w' vr (lm B9 r)
theorem Rd.drewN {k : IntKind} {w : World} {v : Value} {l : List Nat} (h : Rd k w v l) (n : Nat) : Rd k (w.drewN n) v l := RdC.drewN h n
theorem divide_less (w : World) (va vb : Value) (a b : Nat) (ha : Rd .u64 w va (lm B9 a)) (hb : Rd .u64 w vb (lm B9 b)) (hab : a < b) :
 Calls Tryz.prog 156 #[va, vb] w (Ret (QR (a / b) (a % b)) w) := by
 have hc : Hid (cmpN a b = -1) := cmpN_lt hab;have HQ : Hid (a / b = 0 /\ a % b = a) := ⟨Nat.div_eq_of_lt hab, Nat.mod_eq_of_lt hab⟩;obtain ⟨p, c, rfl, h1, h2, _⟩ := hb.open;obtain ⟨p', c', rfl, h3, h4, _⟩ := ha.open;have hal : ∀ o1 o2, Rd .u64 ((w.alloc o1).alloc o2) (.slice p' (lm B9 a).length c') (lm B9 a) := fun o1 o2 => (ha.alloc o1).alloc o2;have hbl : ∀ o1 o2, Rd .u64 ((w.alloc o1).alloc o2) (.slice p (lm B9 b).length c) (lm B9 b) := fun o1 o2 => (hb.alloc o1).alloc o2;have HA := hid hal;have HB := hid hbl;have ha0 := ha;have HA0 := hid ha0;clear hal hbl ha hb ha0;go_enter Tryz.func156, Tryz.ntmps156;go_wp2_with fail;refine (order_any _ _ _ a b (HA.out _ _) (HB.out _ _)).mono ?_;rintro e w1 ⟨_, rfl, rfl, n, rfl⟩;rw [hc.out];have HBel : Below w.heap.size w (((((w.alloc (.cells #[.slice p (lm B9 b).length c] 207)).alloc (.cells #[.slice none 0 0] 207)).drewN n).setCell ⟨w.heap.size + 1, 0, none⟩ (.slice none 0 0))) :=
  ((((Below.refl _ w).alloc (Nat.le_refl _) _).alloc (by simp) _).trans (below_drewN _ n |>.mono (by simp; omega))).setCell (by simp) _
 have hcell : (((((w.alloc (.cells #[.slice p (lm B9 b).length c] 207)).alloc (.cells #[.slice none 0 0] 207)).drewN n).setCell ⟨w.heap.size + 1, 0, none⟩ (.slice none 0 0))).cell? ⟨w.heap.size + 1, 0, none⟩ = some (.slice none 0 0) :=
  World.cell?_setCell_same' _ _ _ (by rw [World.cell?_drewN, World.cell?_alloc_at _ _ _ _ (by simp)]; rfl)
 have HC := hid hcell;clear hcell;go_wp2_with fail;refine bodyPost_ret (v := .tuple #[.slice none 0 0, .slice p' (lm B9 a).length c']) (by simp [results, Tryz.results156, go_sem, HC.out]) rfl ?_;refine ⟨_, rfl, ⟨_, _, rfl, ?_, ?_⟩, HBel⟩
 ·rw [HQ.out.1, lm_zero]; exact RdC.nil0 _ _
 ·rw [HQ.out.2]
  exact RdC.below HA0.out HBel
end Go.Proofs.YtbfcmipplhkkeaaGreatDoor
namespace Go.Proofs.YtbfcmipplhkkeaaGreatDoor
open Go.RowKit Go.Shelf Go.Lib
attribute [local go_sem] Oper.semAt_some
def stepD (xs : List Nat) (b : Nat) (s : List Nat × Nat) (i : Nat) : List Nat × Nat := (s.1.set i ((s.2 * B9 + (xs[i]?.getD 0)) / b), (s.2 * B9 + (xs[i]?.getD 0)) % b)
def foldD (xs : List Nat) (b : Nat) (pre : List Nat) : List Nat × Nat := pre.foldl (stepD xs b) (List.replicate xs.length 0, 0)
theorem foldD_snoc (xs : List Nat) (b : Nat) (pre : List Nat) (i : Nat) : foldD xs b (pre ++ [i]) = stepD xs b (foldD xs b pre) i := by simp [foldD]
theorem foldD_inv {xs : List Nat} {b : Nat} (hx : ∀ x ∈ xs, x < B9) (hb : 0 < b) (pre : List Nat) :
 (foldD xs b pre).1.length = xs.length /\ Lt9 (foldD xs b pre).1 /\ (foldD xs b pre).2 < b := by
 generalize hn : pre.length = n
 induction n generalizing pre with
 | zero => obtain rfl := List.length_eq_zero_iff.1 hn; simp [foldD, Lt9.replicate]; exact hb
 | succ n ih =>
   rcases List.eq_nil_or_concat pre with rfl | ⟨L, i, rfl⟩
   ·simp at hn
   ·rw [List.concat_eq_append] at *
    obtain ⟨h1, h2, h3⟩ := ih L (by simp at hn; omega);rw [foldD_snoc];have hi := getD_lt9 hx i;unfold stepD;refine ⟨by simp [h1], h2.set _ _ ?_, Nat.mod_lt _ hb⟩;apply Nat.div_lt_of_lt_mul;have h4 : ((foldD xs b L).2 + 1) * B9 <= b * B9 := Nat.mul_le_mul_right _ h3;rw [Nat.add_mul] at h4;omega
theorem stepD_arith {B x r o q s b : Nat} (h5 : b * q + s = r * B + x) : x + B * (b * o + r) = b * (q + B * o) + s := by grind
theorem foldD_val {xs : List Nat} {b : Nat} (hx : ∀ x ∈ xs, x < B9) (hb : 0 < b) (k : Nat) (hk : k <= xs.length) :
 lval B9 (xs.drop (xs.length - k)) = b * lval B9 ((foldD xs b (bwd xs.length k)).1.drop (xs.length - k)) + (foldD xs b (bwd xs.length k)).2 := by
 induction k with
 | zero =>
   have h1 := (foldD_inv hx hb (bwd xs.length 0)).1;rw [Nat.sub_zero, List.drop_eq_nil_of_le (Nat.le_refl _), List.drop_eq_nil_of_le (by omega)];simp [lval, bwd, foldD]
 | succ k ih =>
   have ih' := ih (by omega);obtain ⟨h1, h2, h3⟩ := foldD_inv hx hb (bwd xs.length k);rw [bwd_succ, foldD_snoc];have hi : xs.length - 1 - k < xs.length := by omega
   have hi2 : xs.length - 1 - k < (foldD xs b (bwd xs.length k)).1.length := by omega
   have e1 : xs.length - (k + 1) = xs.length - 1 - k := by omega
   have e2 : xs.length - 1 - k + 1 = xs.length - k := by omega
   unfold stepD;simp only;have hi3 : xs.length - 1 - k < ((foldD xs b (bwd xs.length k)).1.set (xs.length - 1 - k) (((foldD xs b (bwd xs.length k)).2 * B9 + (xs[xs.length - 1 - k]?.getD 0)) / b)).length := by rw [List.length_set]; exact hi2
   rw [e1, List.drop_eq_getElem_cons hi, e2, List.drop_eq_getElem_cons hi3, e2, List.getElem_set_self, List.drop_set_of_lt (by omega)];simp only [lval];rw [ih'];have hg : xs[xs.length - 1 - k]?.getD 0 = xs[xs.length - 1 - k] := by simp [hi]
   rw [hg];exact stepD_arith (Nat.div_add_mod _ b)
theorem foldD_all {a b : Nat} (hb : 0 < b) (hb9 : b < B9) :
 dropZ (foldD (lm B9 a) b (bwd (lm B9 a).length (lm B9 a).length)).1 = lm B9 (a / b) /\ dropZ [(foldD (lm B9 a) b (bwd (lm B9 a).length (lm B9 a).length)).2] = lm B9 (a % b) := by
 have hx := lm_lt B9 a two_le_B9;obtain ⟨h1, h2, h3⟩ := foldD_inv hx hb (bwd (lm B9 a).length (lm B9 a).length);have h4 := foldD_val hx hb (lm B9 a).length (Nat.le_refl _);rw [Nat.sub_self, List.drop_zero, List.drop_zero, lval_lm B9 a two_le_B9] at h4;generalize foldD (lm B9 a) b (bwd (lm B9 a).length (lm B9 a).length) = s at *;have e1 : a / b = lval B9 s.1 := by rw [h4, Nat.mul_add_div hb, Nat.div_eq_of_lt h3, Nat.add_zero]
 have e2 : a % b = s.2 := by rw [h4, Nat.mul_add_mod_self_left, Nat.mod_eq_of_lt h3]
 rw [e1, e2];refine ⟨dropZ_eq B9 two_le_B9 _ h2, ?_⟩;rw [dropZ_eq B9 two_le_B9 [s.2] (by intro y hy; simp at hy; omega)];simp [lval]
theorem cell_alloc_l {W : World} {p : Addr} {v : Value} (o : Obj) (h : W.cell? p = some v) : (W.alloc o).cell? p = some v := cell_kept h (World.grownBy_alloc W o none) (fun r e => by cases e)
theorem frozen_alloc_l {W : World} {p : Addr} {v : Value} (o : Obj) (h : W.cell? p = some v) (hf : W.frozen? p = false) : (W.alloc o).frozen? p = false := (frozen_kept h (World.grownBy_alloc W o none) (fun r e => by cases e)).trans hf
theorem rd_one (X : World) (h s : Nat) (z : Int) (hz : z = s) (hc : X.cell? ⟨h, 0, none⟩ = some (.int .u64 z)) : Rd .u64 X (.slice (some ⟨h, 0, none⟩) 1 1) [s] := by
 subst hz;refine ⟨_, _, rfl, by simp, by unfold maxLen; omega, by simp, fun _ => ⟨h, 0, rfl, fun i x hx => ?_⟩⟩;rcases i with _ | i
 ·simp at hx; subst hx; exact hc
 ·simp at hx
def zeros (n : Nat) : Array Value := ((List.replicate n 0).map fun x : Nat => Value.int .u64 (x : Int)).toArray
theorem rd_put {k : IntKind} {w : World} {v : Value} {l : List Nat} (h : Rd k w v l) {D : Nat} {o : Obj} (hD : w.heap[D]? = some o) (ho : o.isCells = false) (o' : Obj) : Rd k (w.putObj D o') v l := by
 obtain ⟨p, c, hv, h1, h2, h3, h4⟩ := h;refine ⟨p, c, hv, h1, h2, h3, fun hne => ?_⟩;obtain ⟨b, off, hp, hc⟩ := h4 hne;refine ⟨b, off, hp, fun i x hx => ?_⟩;have h5 := hc i x hx;obtain ⟨ob, hob, hcs⟩ := cells_of_cell h5;have hbD : b ≠ D := fun e => by subst e; rw [hD] at hob; cases hob; rw [ho] at hcs; cases hcs
 exact (World.cell?_of_block (World.putObj_heap_other hbD)).trans h5
theorem run_make_u64 (n : Nat) (hn : n <= 10000000) (w : World) :
 (Instr.makeSlice 207 (.int .i64 (n : Int)) (.int .i64 (n : Int))).run Tryz.prog w = .ok (.slice (some ⟨w.heap.size, 0, none⟩) n n) (w.alloc (.cells (zeros n) 235)) := by
 obtain ⟨i0, hi, hz0, hz1, hz2⟩ := info_parts Tryz.info_u64;have h := run_make (P := Tryz.prog) w 207 235 i0 (.int .u64 0) Tryz.underlying207 hi hz0 .i64 .i64 (n : Int) (n : Int) (by omega) (Int.le_refl _) (by rw [hz2]; omega) (by omega);rw [h, hz1];have e : madeCells (Value.int .u64 0).cells ((n : Int).toNat * 1) = zeros n := by
  unfold zeros;simp only [Int.toNat_natCast, Nat.mul_one];apply Array.ext
  ·simp [size_madeCells]
  ·intro i h1 h2
   simp [madeCells, Value.cells, Nat.mod_one]
 rw [e];simp only [Int.toNat_natCast]
theorem divide_one_in (n : Nat) (hn : 6 <= n) (w : World) (va vb : Value) (a b : Nat) (ha : Rd .u64 w va (lm B9 a)) (hb : Rd .u64 w vb (lm B9 b)) (hab : b <= a) (hb0 : 0 < b) (hb9 : b < B9)
 (hlen : (lm B9 a).length <= 1000000) :
 CallsIn Fence.wide n Tryz.prog 156 #[va, vb] w (Ret (QR (a / b) (a % b)) w) := by
 have h1 : 1 <= n := by omega
 obtain ⟨cz, hcz⟩ : ∃ cz, cz = cmpN a b := ⟨_, rfl⟩;have hcz0 : ¬ cz < 0 := by rw [hcz]; unfold cmpN; split; omega; split <;> omega
 have hall := foldD_all (a := a) hb0 hb9;have hinv := fun pre => foldD_inv (lm_lt B9 a two_le_B9) hb0 pre;have hlb : lm B9 b = [b] := by
  have := (dropZ_eq B9 two_le_B9 [b] (by intro y hy; simp at hy; omega)).symm;simp only [lval, Nat.mul_zero, Nat.add_zero] at this;rw [this, <- List.nil_append [b], dropZ_snoc_pos _ _ (by omega)]
 have hmk := run_make_u64 (lm B9 a).length (by omega);obtain ⟨p, c, rfl, hc, hm, hr⟩ := ha.open;have hb' := hb;rw [hlb] at hb';obtain ⟨q, d, rfl, hd, hm2, hs⟩ := hb'.open;obtain ⟨bb, ob, rfl, hbl, hbc⟩ := hs (by simp);have hbcell := hbc 0 (by simp);simp only [List.getElem_cons_zero, Nat.add_zero] at hbcell;refine callsIn_of_wp_marks Tryz.func156 rfl trivial ?_ rfl;simp only [Tryz.ntmps156, List.size_toArray, List.length_cons, List.length_nil, Nat.reduceAdd, Nat.reduceSub, Array.replicate_succ, Array.replicate_zero, List.push_toArray, List.append_toArray, List.nil_append, List.cons_append];have HALL := hid hall;have HINV := hid hinv;have HR := hid hr;have HCZ := hid hcz;have HA := hid ha;have HB := hid hb;have HLT := hid (lm_lt B9 a two_le_B9);clear hall hinv hr hcz ha hb hs hbc hb' hlb;gi_wp2_with fail;refine ⟨trivial, ?_⟩;refine CallsIn.mono (callsIn_wide.2 (order_any _ _ _ a b ((HA.out.alloc _).alloc _) ((HB.out.alloc _).alloc _))) ?_;rintro e w1 ⟨_, rfl, rfl, j, rfl⟩;rw [<- HCZ.out];gi_wp2_with fail;generalize hX : ((((w.alloc (Obj.cells #[Value.slice (some { block := bb, off := ob }) 1 d] 207)).alloc (Obj.cells #[Value.slice none 0 0] 207)).drewN j).setCell { block := w.heap.size + 1, off := 0 }
  (Value.slice (some { block := w.heap.size + 1 + 1, off := 0 }) (lm B9 a).length (lm B9 a).length)) = X
 have hXs : X.heap.size = w.heap.size + 2 := by rw [<- hX]; simp [World.setCell]
 have hXb : Below w.heap.size w X := by
  rw [<- hX];exact ((((Below.refl _ w).alloc (Nat.le_refl _) _).alloc (by simp) _).trans (below_drewN _ j |>.mono (by simp; omega))).setCell (by simp) _
 have x0 : X.cell? ⟨w.heap.size, 0, none⟩ = some (.slice (some ⟨bb, ob, none⟩) 1 d) := by
  rw [<- hX, World.cell?_setCell_other _ _ _ _ (by simp), World.cell?_drewN, World.cell?_alloc_past _ _ _ (by simp), World.cell?_alloc_at _ _ _ _ rfl]; rfl
 have x1 : X.cell? ⟨w.heap.size + 1, 0, none⟩ = some (.slice (some ⟨w.heap.size + 2, 0, none⟩) (lm B9 a).length (lm B9 a).length) := by
  rw [<- hX];exact World.cell?_setCell_same' _ _ _ (by rw [World.cell?_drewN, World.cell?_alloc_at _ _ _ _ (by simp)]; rfl)
 have x1f : X.frozen? ⟨w.heap.size + 1, 0, none⟩ = false := by
  rw [<- hX, World.frozen?_setCell];exact World.frozen?_alloc_at _ _ _ _ (by simp)
 have x2 := heap_alloc_new X (Obj.cells (zeros (lm B9 a).length) 235);rw [hXs] at x2;clear hX;generalize hW1 : (X.alloc (Obj.cells (zeros (lm B9 a).length) 235)).alloc (Obj.cells #[Value.int IntKind.u64 0] 235) = W1;have hsz : W1.heap.size = w.heap.size + 4 := by rw [<- hW1]; simp; omega
 have hbw : Below w.heap.size w W1 := by
  rw [<- hW1];exact (hXb.alloc hXb.size _).alloc (by simp; omega) _
 have c0 : W1.cell? ⟨w.heap.size, 0, none⟩ = some (.slice (some ⟨bb, ob, none⟩) 1 d) := by
  rw [<- hW1, World.cell?_alloc_past _ _ _ (by simp; omega), World.cell?_alloc_past _ _ _ (by show w.heap.size < X.heap.size; omega)]; exact x0
 have c1 : W1.cell? ⟨w.heap.size + 1, 0, none⟩ = some (.slice (some ⟨w.heap.size + 2, 0, none⟩) (lm B9 a).length (lm B9 a).length) := by
  rw [<- hW1, World.cell?_alloc_past _ _ _ (by simp; omega), World.cell?_alloc_past _ _ _ (by show w.heap.size + 1 < X.heap.size; omega)]; exact x1
 have c1f : W1.frozen? ⟨w.heap.size + 1, 0, none⟩ = false := by rw [<- hW1]; exact frozen_alloc_l _ (cell_alloc_l _ x1) (frozen_alloc_l _ x1 x1f)
 have c2 : Arr .u64 W1 (w.heap.size + 2) 235 (List.replicate (lm B9 a).length 0) := by
  rw [<- hW1];unfold Arr;rw [heap_old _ _ _ (by simp; omega), x2];rfl
 have c3 : W1.cell? ⟨w.heap.size + 3, 0, none⟩ = some (.int .u64 0) /\ W1.frozen? ⟨w.heap.size + 3, 0, none⟩ = false := by
  rw [<- hW1];exact ⟨by rw [World.cell?_alloc_at _ _ _ _ (by simp; omega)]; rfl, World.frozen?_alloc_at _ _ _ _ (by simp; omega)⟩
 clear hW1 x0 x1 x1f x2 hXb hXs X;refine ⟨trivial, ?_⟩;refine CallsIn.mono (callsIn_wide.2 (backward_any _ _ _ _)) ?_;rintro e w3 ⟨rfl, rfl⟩;gi_wp2_with fail;have hbW : Below w.heap.size w (W1.alloc (.cells #[.slice p (lm B9 a).length c] 207)) := hbw.alloc hbw.size _;have hr2 : lm B9 a ≠ [] -> ∃ b off, p = some ⟨b, off, none⟩ /\ b < w.heap.size /\ ∀ (i : Nat) (hi : i < (lm B9 a).length), (W1.alloc (.cells #[.slice p (lm B9 a).length c] 207)).cell? ⟨b, off + i, none⟩ = some (.int .u64 (((lm B9 a)[i] : Nat) : Int)) := fun hne => by
  obtain ⟨b, off, hp, hbl, hcell⟩ := HR.out hne;exact ⟨b, off, hp, hbl, fun i hi => (zcq hbW hbl (hcell i hi) :)⟩
 have hbc2 := zcq hbw hbl hbcell;generalize lm B9 a = xs at *;refine wpIn_rangeFunc_ownF rfl h1 (gf := 232) (lb := #[.pointer (some ⟨w.heap.size + 4, 0, none⟩)]) rfl trivial (enters_of Tryz.func232 (by kernel_rfl) rfl)
  (bwd_stops Fence.wide (n - 1) trivial rfl (by omega) (w.heap.size + 4) w.heap.size _ c xs hlen _ (by simp; omega) (by simp; omega) (World.cell?_alloc_at _ _ _ _ hsz.symm) hr2) (fun h k => KeepAt.trans h k) (keepAt_b (by simp; omega) (by simp; omega)) (Below.refl _ _) (fun _ => rfl)
  (fun (pre : List (Ix xs)) W => (W.cell? ⟨w.heap.size, 0, none⟩ = some (.slice (some ⟨bb, ob, none⟩) 1 d) /\ (W.cell? ⟨w.heap.size + 1, 0, none⟩ = some (.slice (some ⟨w.heap.size + 2, 0, none⟩) xs.length xs.length) /\ W.frozen? ⟨w.heap.size + 1, 0, none⟩ = false)
    /\ Arr .u64 W (w.heap.size + 2) 235 (foldD xs b (pre.map Subtype.val)).1 /\ W.cell? ⟨w.heap.size + 3, 0, none⟩ = some (.int .u64 (foldD xs b (pre.map Subtype.val)).2) /\ W.frozen? ⟨w.heap.size + 3, 0, none⟩ = false
    /\ W.heap[w.heap.size + 4]? = some (.cells #[.slice p xs.length c] 207)) /\ Below w.heap.size w W)
  (fun _ _ _ => False)
  (OwnFrom.and (Own.from (fun s A B row hs hg' hr => ⟨cell_kept hs.1 hg' hr, ⟨cell_kept hs.2.1.1 hg' hr, (frozen_kept hs.2.1.1 hg' hr).trans hs.2.1.2⟩, (grownBy_keeps_cells hg' hr hs.2.2.1 rfl).trans hs.2.2.1, cell_kept hs.2.2.2.1 hg' hr, (frozen_kept hs.2.2.2.1 hg' hr).trans hs.2.2.2.2.1, (grownBy_keeps_cells hg' hr hs.2.2.2.2.2 rfl).trans hs.2.2.2.2.2⟩) _) (ownFrom_below (Nat.le_refl _) (by simp; omega)))
  (fun _ _ _ _ _ hs _ _ => hs)
  ⟨⟨cell_alloc_l _ c0, ⟨cell_alloc_l _ c1, frozen_alloc_l _ c1 c1f⟩, (heap_old _ _ _ (by omega)).trans c2, cell_alloc_l _ c3.1, frozen_alloc_l _ c3.1 c3.2, by rw [<- hsz]; exact heap_alloc_new _ _⟩, hbW⟩
  ?a1 ?assign ?body ?done ?stop
 case assign =>
  intro l x W K hK;dsimp only [encBwd]
  gi_wp2
  exact hK
 case body =>
  rintro l pre ix W ⟨⟨hI0, ⟨hI1, hI1f⟩, hI2, hI3, hI4, hI5⟩, hB⟩ hpl;have hix := ix.2;generalize hi0 : ix.1 = i at *;have HI0 := hid hi0;obtain ⟨hl1, hl2, hl3⟩ := HINV.out (pre.map Subtype.val);have hxz9 : xs[i]?.getD 0 < B9 := getD_lt9 HLT.out i;have HST : Hid (foldD xs b ((pre ++ [ix]).map Subtype.val) = stepD xs b (foldD xs b (pre.map Subtype.val)) i) := by
   unfold Hid; rw [List.map_append, List.map_cons, List.map_nil, foldD_snoc, hi0]
  generalize foldD xs b (pre.map Subtype.val) = s at *;obtain ⟨so, sr⟩ := s;have hio : i < so.length := by rw [hl1]; exact hix
  obtain ⟨rz, hrz⟩ : ∃ rz : Int, rz = (sr : Int) := ⟨_, rfl⟩;generalize hxz : ((xs[i]?.getD 0 : Nat) : Int) = xz;obtain ⟨bz, hbz⟩ : ∃ bz : Int, bz = (b : Int) := ⟨_, rfl⟩;simp only [<- hrz] at hI3;have hbW2 := zcq hB hbl hbcell;rw [<- hbz] at hbW2;have b1 : 0 <= rz /\ rz < bz /\ 0 < bz /\ bz < 1000000000 /\ 0 <= xz /\ xz < 1000000000 := by unfold B9 at hxz9 hb9; simp only at hl3; omega
  have hcell := hI2.cell i hio;have hfro := hI2.frozen i;have HRZ := hid hrz;have HXZ := hid hxz;have HBZ := hid hbz;clear hi0 hrz hxz hbz hl1;gi_wp2_with fail;obtain ⟨q, hq⟩ : ∃ q : Int, q = rz * 1000000000 + xz := ⟨_, rfl⟩;have b2 : 0 <= q /\ q <= 18446744073709551615 := by omega
  rw [<- hq];have HQ := hid hq;clear hq;obtain ⟨qq, hqq⟩ : ∃ qq : Int, qq = q.tdiv bz := ⟨_, rfl⟩;obtain ⟨rr, hrr⟩ : ∃ rr : Int, rr = q.tmod bz := ⟨_, rfl⟩;have hbz0 : ¬ bz = 0 := by omega
  have hqq0 : 0 <= qq /\ qq <= q := by
   rw [hqq];exact ⟨Int.tdiv_nonneg b2.1 (by omega), by rw [Int.tdiv_eq_ediv_of_nonneg b2.1]; exact Int.ediv_le_self _ b2.1⟩
  have hwq : IntKind.u64.wrap (q.tdiv bz) = q.tdiv bz := by
   rw [<- hqq];simp [IntKind.wrap, IntKind.bits, IntKind.signed];omega
  generalize hW' : W.setCell ⟨w.heap.size + 1 + 1 + 1, 0, none⟩ (Value.int .u64 q) = W';have d0 : W'.cell? ⟨w.heap.size, 0, none⟩ = some (.slice (some ⟨bb, ob, none⟩) 1 d) := by rw [<- hW', World.cell?_setCell_other _ _ _ _ (by simp)]; exact hI0
  have d1 : W'.cell? ⟨w.heap.size + 1, 0, none⟩ = some (.slice (some ⟨w.heap.size + 2, 0, none⟩) xs.length xs.length) := by rw [<- hW', World.cell?_setCell_other _ _ _ _ (by simp)]; exact hI1
  have d2 : W'.cell? ⟨w.heap.size + 2, i, none⟩ = some (.int .u64 (so[i] : Nat)) := by rw [<- hW', World.cell?_setCell_other _ _ _ _ (by simp)]; exact hcell
  have d2f : W'.frozen? ⟨w.heap.size + 2, i, none⟩ = false := by rw [<- hW', World.frozen?_setCell]; exact hfro
  have d3 : W'.cell? ⟨w.heap.size + 3, 0, none⟩ = some (.int .u64 q) := by rw [<- hW']; exact World.cell?_setCell_same' _ _ _ (by rw [show w.heap.size + 1 + 1 + 1 = w.heap.size + 3 by omega, hI3]; rfl)
  have d3f : W'.frozen? ⟨w.heap.size + 3, 0, none⟩ = false := by rw [<- hW', World.frozen?_setCell]; exact hI4
  have d4 : W'.cell? ⟨bb, ob, none⟩ = some (.int .u64 bz) := by rw [<- hW', World.cell?_setCell_other _ _ _ _ (by simp only [ne_eq, Addr.mk.injEq, not_and]; omega)]; exact hbW2
  have HW' := hid hW';clear hW';refine wpIn_region_drawn (fun k v => v = match k with
   | 0 => .slice (some ⟨w.heap.size + 2, 0, none⟩) xs.length xs.length | 1 => .int .i64 i | 2 => .int .u64 q | 3 => .slice (some ⟨bb, ob, none⟩) 1 d | 4 => .pointer (some ⟨bb, ob, none⟩) | 5 => .int .u64 bz | 6 => .int .u64 qq
   | 7 => .int .u64 q | 8 => .slice (some ⟨bb, ob, none⟩) 1 d | 9 => .pointer (some ⟨bb, ob, none⟩) | 10 => .int .u64 bz | 11 => .int .u64 rr | 12 => .pointer (some ⟨w.heap.size + 2, i, none⟩) | _ => undef)
   (fun listed X => X = (if listed.getD 14 false then (W'.drew.setCell ⟨w.heap.size + 2, i, none⟩ (.int .u64 qq)).setCell ⟨w.heap.size + 3, 0, none⟩ (.int .u64 rr) else if listed.getD 13 false then W'.drew.setCell ⟨w.heap.size + 2, i, none⟩ (.int .u64 qq) else W'.drew))
   (by kernel_rfl) (by kernel_rfl) (by simp) ?_ ?_
  ·intro listed a' X k o ho hk hdep hD hC
   have hne := getD_ne listed;have h14 : listed.getD 14 false = false := by
    rcases Nat.lt_or_ge k 14 with hk14 | hk14
    ·refine Bool.eq_false_iff.2 fun h => ?_
     have hcl := fun e he => hD.closed 14 _ rfl h e he;have := hcl ⟨k, .phase⟩ (by
      rcases k with _|_|_|_|_|_|_|_|_|_|_|_|_|_|k <;> first | (exfalso; omega) | simp) rfl
     rw [getD_false hk] at this;cases this
    ·obtain rfl : k = 14 := by
      have := (Array.getElem?_eq_some_iff.1 ho).1;simp at this;omega
     exact getD_false hk
   rw [if_neg (by rw [h14]; simp)] at hC;have x0 : X.cell? ⟨w.heap.size, 0, none⟩ = some (.slice (some ⟨bb, ob, none⟩) 1 d) := by rw [hC]; split; rw [World.cell?_setCell_other _ _ _ _ (by simp)]; exact d0; exact d0
   have x1 : X.cell? ⟨w.heap.size + 1, 0, none⟩ = some (.slice (some ⟨w.heap.size + 2, 0, none⟩) xs.length xs.length) := by rw [hC]; split; rw [World.cell?_setCell_other _ _ _ _ (by simp)]; exact d1; exact d1
   have x3 : X.cell? ⟨w.heap.size + 3, 0, none⟩ = some (.int .u64 q) := by rw [hC]; split; rw [World.cell?_setCell_other _ _ _ _ (by simp)]; exact d3; exact d3
   have x3f : X.frozen? ⟨w.heap.size + 3, 0, none⟩ = false := by rw [hC]; split; rw [World.frozen?_setCell]; exact d3f; exact d3f
   have x4 : X.cell? ⟨bb, ob, none⟩ = some (.int .u64 bz) := by rw [hC]; split; rw [World.cell?_setCell_other _ _ _ _ (by simp only [ne_eq, Addr.mk.injEq, not_and]; omega)]; exact d4; exact d4
   have o3 := hD.old 3 (by intro j oj hj; rcases j with _|_|_|_|_|_|_|_|_|_|_|_|_|_|_|j <;> first | (injection hj with hj; subst hj; simp) | exact absurd hj (by simp));have o4 := hD.old 4 (by intro j oj hj; rcases j with _|_|_|_|_|_|_|_|_|_|_|_|_|_|_|j <;> first | (injection hj with hj; subst hj; simp) | exact absurd hj (by simp));have o6 := hD.old 6 (by intro j oj hj; rcases j with _|_|_|_|_|_|_|_|_|_|_|_|_|_|_|j <;> first | (injection hj with hj; subst hj; simp) | exact absurd hj (by simp));have o7 := hD.old 7 (by intro j oj hj; rcases j with _|_|_|_|_|_|_|_|_|_|_|_|_|_|_|j <;> first | (injection hj with hj; subst hj; simp) | exact absurd hj (by simp));replace o3 : a'.eval (.tmp 3) = .pointer (some ⟨w.heap.size, 0, none⟩) := o3;replace o4 : a'.eval (.tmp 4) = .pointer (some ⟨w.heap.size + 1, 0, none⟩) := o4;replace o6 : a'.eval (.tmp 6) = .pointer (some ⟨w.heap.size + 3, 0, none⟩) := o6;replace o7 : a'.eval (.tmp 7) = .int .i64 i := o7;rcases k with _|_|_|_|_|_|_|_|_|_|_|_|_|_|_|k
   ·injection ho with ho; subst ho
    refine ⟨rfl, wpIn_value (w' := X) (by intro c hc; cases hc) (by intro c hc; cases hc) ?_ ⟨_, rfl, rfl, by rw [hne 0 14 (by omega), hne 0 13 (by omega), if_neg (by rw [h14]; simp)]; exact hC⟩⟩;clear hdep hD hne h14 hC;have ec : a'.eval (.const (.int .i64 0)) = .int .i64 0 := rfl;generalize a'.eval = ρ at *;simp [execOp, go_sem, *]
   ·injection ho with ho; subst ho
    refine ⟨rfl, wpIn_value (w' := X) (by intro c hc; cases hc) (by intro c hc; cases hc) ?_ ⟨_, rfl, rfl, by rw [hne 1 14 (by omega), hne 1 13 (by omega), if_neg (by rw [h14]; simp)]; exact hC⟩⟩;clear hdep hD hne h14 hC;have ec : a'.eval (.const (.int .i64 0)) = .int .i64 0 := rfl;generalize a'.eval = ρ at *;simp [execOp, go_sem, *]
   ·injection ho with ho; subst ho
    refine ⟨rfl, wpIn_value (w' := X) (by intro c hc; cases hc) (by intro c hc; cases hc) ?_ ⟨_, rfl, rfl, by rw [hne 2 14 (by omega), hne 2 13 (by omega), if_neg (by rw [h14]; simp)]; exact hC⟩⟩;clear hdep hD hne h14 hC;have ec : a'.eval (.const (.int .i64 0)) = .int .i64 0 := rfl;generalize a'.eval = ρ at *;simp [execOp, go_sem, *]
   ·injection ho with ho; subst ho
    refine ⟨rfl, wpIn_value (w' := X) (by intro c hc; cases hc) (by intro c hc; cases hc) ?_ ⟨_, rfl, rfl, by rw [hne 3 14 (by omega), hne 3 13 (by omega), if_neg (by rw [h14]; simp)]; exact hC⟩⟩;clear hdep hD hne h14 hC;have ec : a'.eval (.const (.int .i64 0)) = .int .i64 0 := rfl;generalize a'.eval = ρ at *;simp [execOp, go_sem, *]
   ·injection ho with ho; subst ho
    have e36 := hD.has 3 _ 36 rfl rfl (hdep ⟨3, .data⟩ (by simp) rfl);refine ⟨rfl, wpIn_value (w' := X) (by intro c hc; cases hc) (by intro c hc; cases hc) ?_ ⟨_, rfl, rfl, by rw [hne 4 14 (by omega), hne 4 13 (by omega), if_neg (by rw [h14]; simp)]; exact hC⟩⟩;clear hdep hD hne h14 hC;have ec : a'.eval (.const (.int .i64 0)) = .int .i64 0 := rfl;generalize a'.eval = ρ at *;simp [execOp, go_sem, *]
   ·injection ho with ho; subst ho
    have e37 := hD.has 4 _ 37 rfl rfl (hdep ⟨4, .data⟩ (by simp) rfl);refine ⟨rfl, wpIn_value (w' := X) (by intro c hc; cases hc) (by intro c hc; cases hc) ?_ ⟨_, rfl, rfl, by rw [hne 5 14 (by omega), hne 5 13 (by omega), if_neg (by rw [h14]; simp)]; exact hC⟩⟩;clear hdep hD hne h14 hC;have ec : a'.eval (.const (.int .i64 0)) = .int .i64 0 := rfl;generalize a'.eval = ρ at *;simp [execOp, go_sem, *]
   ·injection ho with ho; subst ho
    have e35 := hD.has 2 _ 35 rfl rfl (hdep ⟨2, .data⟩ (by simp) rfl);have e38 := hD.has 5 _ 38 rfl rfl (hdep ⟨5, .data⟩ (by simp) rfl);refine ⟨rfl, wpIn_value (w' := X) (by intro c hc; cases hc) (by intro c hc; cases hc) ?_ ⟨_, rfl, rfl, by rw [hne 6 14 (by omega), hne 6 13 (by omega), if_neg (by rw [h14]; simp)]; exact hC⟩⟩;clear hdep hD hne h14 hC;have ec : a'.eval (.const (.int .i64 0)) = .int .i64 0 := rfl;generalize a'.eval = ρ at *;simp [execOp, go_sem, *]
   ·injection ho with ho; subst ho
    refine ⟨rfl, wpIn_value (w' := X) (by intro c hc; cases hc) (by intro c hc; cases hc) ?_ ⟨_, rfl, rfl, by rw [hne 7 14 (by omega), hne 7 13 (by omega), if_neg (by rw [h14]; simp)]; exact hC⟩⟩;clear hdep hD hne h14 hC;have ec : a'.eval (.const (.int .i64 0)) = .int .i64 0 := rfl;generalize a'.eval = ρ at *;simp [execOp, go_sem, *]
   ·injection ho with ho; subst ho
    refine ⟨rfl, wpIn_value (w' := X) (by intro c hc; cases hc) (by intro c hc; cases hc) ?_ ⟨_, rfl, rfl, by rw [hne 8 14 (by omega), hne 8 13 (by omega), if_neg (by rw [h14]; simp)]; exact hC⟩⟩;clear hdep hD hne h14 hC;have ec : a'.eval (.const (.int .i64 0)) = .int .i64 0 := rfl;generalize a'.eval = ρ at *;simp [execOp, go_sem, *]
   ·injection ho with ho; subst ho
    have e41 := hD.has 8 _ 41 rfl rfl (hdep ⟨8, .data⟩ (by simp) rfl);refine ⟨rfl, wpIn_value (w' := X) (by intro c hc; cases hc) (by intro c hc; cases hc) ?_ ⟨_, rfl, rfl, by rw [hne 9 14 (by omega), hne 9 13 (by omega), if_neg (by rw [h14]; simp)]; exact hC⟩⟩;clear hdep hD hne h14 hC;have ec : a'.eval (.const (.int .i64 0)) = .int .i64 0 := rfl;generalize a'.eval = ρ at *;simp [execOp, go_sem, *]
   ·injection ho with ho; subst ho
    have e42 := hD.has 9 _ 42 rfl rfl (hdep ⟨9, .data⟩ (by simp) rfl);refine ⟨rfl, wpIn_value (w' := X) (by intro c hc; cases hc) (by intro c hc; cases hc) ?_ ⟨_, rfl, rfl, by rw [hne 10 14 (by omega), hne 10 13 (by omega), if_neg (by rw [h14]; simp)]; exact hC⟩⟩;clear hdep hD hne h14 hC;have ec : a'.eval (.const (.int .i64 0)) = .int .i64 0 := rfl;generalize a'.eval = ρ at *;simp [execOp, go_sem, *]
   ·injection ho with ho; subst ho
    have e40 := hD.has 7 _ 40 rfl rfl (hdep ⟨7, .data⟩ (by simp) rfl);have e43 := hD.has 10 _ 43 rfl rfl (hdep ⟨10, .data⟩ (by simp) rfl);refine ⟨rfl, wpIn_value (w' := X) (by intro c hc; cases hc) (by intro c hc; cases hc) ?_ ⟨_, rfl, rfl, by rw [hne 11 14 (by omega), hne 11 13 (by omega), if_neg (by rw [h14]; simp)]; exact hC⟩⟩;clear hdep hD hne h14 hC;have ec : a'.eval (.const (.int .i64 0)) = .int .i64 0 := rfl;generalize a'.eval = ρ at *;simp [execOp, go_sem, *]
   ·injection ho with ho; subst ho
    have e33 := hD.has 0 _ 33 rfl rfl (hdep ⟨0, .data⟩ (by simp) rfl);have e34 := hD.has 1 _ 34 rfl rfl (hdep ⟨1, .data⟩ (by simp) rfl);refine ⟨rfl, wpIn_value (w' := X) (by intro c hc; cases hc) (by intro c hc; cases hc) ?_ ⟨_, rfl, rfl, by rw [hne 12 14 (by omega), hne 12 13 (by omega), if_neg (by rw [h14]; simp)]; exact hC⟩⟩;clear hdep hD hne h14 hC;have ec : a'.eval (.const (.int .i64 0)) = .int .i64 0 := rfl;generalize a'.eval = ρ at *;simp [execOp, go_sem, *]
   ·injection ho with ho; subst ho
    have e45 := hD.has 12 _ 45 rfl rfl (hdep ⟨12, .data⟩ (by simp) rfl);have e39 := hD.has 6 _ 39 rfl rfl (hdep ⟨6, .data⟩ (by simp) rfl);have hl13 := getD_false hk;rw [if_neg (by rw [hl13]; simp)] at hC;have x2 : X.cell? ⟨w.heap.size + 2, i, none⟩ = some (.int .u64 (so[i] : Nat)) := by rw [hC]; exact d2
    have x2f : X.frozen? ⟨w.heap.size + 2, i, none⟩ = false := by rw [hC]; exact d2f
    refine ⟨rfl, wpIn_skip' (w' := X.setCell ⟨w.heap.size + 2, i, none⟩ (.int .u64 qq)) (by intro c hc; cases hc) (by intro c hc; cases hc) ?_ ⟨_, rfl, rfl, by rw [hne 13 14 (by omega), if_neg (by rw [h14]; simp), if_pos (getD_now hk), hC]⟩⟩;clear hdep hD hne h14 hC;generalize a'.eval = ρ at *;simp [execOp, go_sem, *]
   ·injection ho with ho; subst ho
    have e44 := hD.has 11 _ 44 rfl rfl (hdep ⟨11, .data⟩ (by simp) rfl);have hl13 := hdep ⟨13, .chain⟩ (by simp) rfl;rw [if_pos hl13] at hC;refine ⟨rfl, wpIn_skip' (w' := X.setCell ⟨w.heap.size + 3, 0, none⟩ (.int .u64 rr)) (by intro c hc; cases hc) (by intro c hc; cases hc) ?_ ⟨_, rfl, rfl, by rw [if_pos (getD_now hk), hC]⟩⟩;clear hdep hD hne h14 hC;generalize a'.eval = ρ at *;simp [execOp, go_sem, *]
   ·exact absurd ho (by simp)
  ·intro listed a' X hall hD hC
   rw [if_pos (hall 14 (by simp))] at hC;have hdf := hD.defers;obtain ⟨tm, df⟩ := a';simp only at hdf;subst hdf;gi_wp2_with fail;have hA : Arr .u64 (W'.drew.setCell ⟨w.heap.size + 2, i, none⟩ (.int .u64 qq)) (w.heap.size + 2) 235 (so.set i ((sr * B9 + xs[i]?.getD 0) / b)) := by
    refine Arr.set ?_ i _ ?_
    ·rw [<- HW'.out]
     show Arr .u64 (W.setCell ⟨w.heap.size + 1 + 1 + 1, 0, none⟩ (.int .u64 q)) _ _ _;unfold Arr;rw [heap_setCell_other _ _ _ _ (by simp)];exact hI2
    ·rw [hqq, Int.tdiv_eq_ediv_of_nonneg b2.1, HQ.out, HRZ.out, <- HXZ.out, HBZ.out]
     unfold B9;simp
   have hR : ((sr * B9 + xs[i]?.getD 0) % b : Nat) = rr := by
    rw [hrr, Int.tmod_eq_emod_of_nonneg b2.1, HQ.out, HRZ.out, <- HXZ.out, HBZ.out];unfold B9;simp
   have hXW : X = ((W.setCell ⟨w.heap.size + 1 + 1 + 1, 0, none⟩ (.int .u64 q)).drew.setCell ⟨w.heap.size + 2, i, none⟩ (.int .u64 qq)).setCell ⟨w.heap.size + 3, 0, none⟩ (.int .u64 rr) := by rw [hC, <- HW'.out]
   have hBX : Below w.heap.size W X := by
    rw [hXW];have g1 : Below w.heap.size W (W.setCell ⟨w.heap.size + 1 + 1 + 1, 0, none⟩ (.int .u64 q)) := (Below.refl _ W).setCell (by simp; omega) _;have g2 : Below w.heap.size W (W.setCell ⟨w.heap.size + 1 + 1 + 1, 0, none⟩ (.int .u64 q)).drew := g1.trans ((below_drewN _ 1).mono (by have := hB.size; simp [World.setCell]; omega));exact (g2.setCell (by simp) _).setCell (by simp) _
   have hKX : KeepsOthers W X := by
    rw [hXW];exact (((KeepsOthers.setCell _ _ _).trans (KeepsOthers.drew _)).trans (KeepsOthers.setCell _ _ _)).trans (KeepsOthers.setCell _ _ _)
   have h4X : X.heap[w.heap.size + 4]? = W.heap[w.heap.size + 4]? := by
    rw [hXW, heap_setCell_other _ _ _ _ (by simp), heap_setCell_other _ _ _ _ (by simp)];exact heap_setCell_other _ _ _ _ (by simp)
   refine ⟨hKX, ⟨hBX, h4X⟩, ⟨?_, ⟨?_, ?_⟩, ?_, ?_, ?_, h4X.trans hI5⟩, hB.trans hBX⟩
   ·rw [hC, World.cell?_setCell_other _ _ _ _ (by simp), World.cell?_setCell_other _ _ _ _ (by simp)]; exact d0
   ·rw [hC, World.cell?_setCell_other _ _ _ _ (by simp), World.cell?_setCell_other _ _ _ _ (by simp)]; exact d1
   ·rw [hC, World.frozen?_setCell, World.frozen?_setCell]
    show W'.frozen? _ = false;rw [<- HW'.out, World.frozen?_setCell]; exact hI1f
   ·rw [HST.out, hC]
    unfold Arr;rw [heap_setCell_other _ _ _ _ (by simp)];exact hA
   ·rw [HST.out, hC]
    show _ = some (Value.int .u64 ((((sr * B9 + xs[i]?.getD 0) % b : Nat)) : Int));rw [hR];exact World.cell?_setCell_same' _ _ _ (by rw [World.cell?_setCell_other _ _ _ _ (by simp)]; show (W'.cell? _).isSome = true; rw [d3]; rfl)
   ·rw [hC, World.frozen?_setCell, World.frozen?_setCell]; exact d3f
 case done =>
  rintro D ys W hD hys ⟨⟨hI0, ⟨hI1, hI1f⟩, hI2, hI3, hI4, hI5⟩, hB⟩ hK;gi_wp2_with fail;rw [hys] at hI2 hI3;obtain ⟨hal1, hal2⟩ := HALL.out;obtain ⟨hil, hi9, hib⟩ := HINV.out (bwd xs.length xs.length);generalize foldD xs b (bwd xs.length xs.length) = s at *;obtain ⟨so, sr⟩ := s;simp only at *;have hRd := hI2.rd (by rw [hil]; unfold maxLen; omega);rw [hil] at hRd;obtain ⟨rz, hrz⟩ : ∃ rz : Int, rz = (sr : Int) := ⟨_, rfl⟩;simp only [<- hrz] at hI3;have HAL1 := hid hal1;have HAL2 := hid hal2;have HRZ := hid hrz;clear hal1 hal2 hrz;have hrc : (W.alloc (Obj.cells #[Value.int .u64 rz] 235)).drew.cell? ⟨W.heap.size, 0, none⟩ = some (.int .u64 rz) := by
   show (W.alloc (Obj.cells #[Value.int .u64 rz] 235)).cell? ⟨W.heap.size, 0, none⟩ = some (.int .u64 rz);rw [World.cell?_alloc_at _ _ _ _ rfl]; rfl
  have hWs : w.heap.size + 4 < W.heap.size := (Array.getElem?_eq_some_iff.1 hI5).1;have hW1 : w.heap.size + 1 < W.heap.size := by omega
  have hW3 : w.heap.size + 3 < W.heap.size := by omega
  refine wpIn_region_drawn (fun k v => match k with
   | 0 => v = .slice (some ⟨w.heap.size + 2, 0, none⟩) xs.length xs.length
   | 1 => Rd .u64 (W.alloc (.cells #[.int .u64 rz] 235)) v (lm B9 (a / b)) | 2 => v = .int .u64 rz | 3 => v = .slice (some ⟨W.heap.size, 0, none⟩) 1 1
   | 4 => Rd .u64 (W.alloc (.cells #[.int .u64 rz] 235)) v (lm B9 (a % b)) | 6 => Rd .u64 (W.alloc (.cells #[.int .u64 rz] 235)) v (lm B9 (a % b)) | _ => v = undef)
   (fun listed X => ∃ X0, X0 = (if listed.getD 3 false then W.drew.alloc (.cells #[.int .u64 rz] 235) else W.drew) /\ (if listed.getD 5 false then ∃ v, Rd .u64 (W.alloc (.cells #[.int .u64 rz] 235)) v (lm B9 (a / b)) /\ X = X0.setCell ⟨w.heap.size + 1, 0, none⟩ v else X = X0))
   (by kernel_rfl) (by kernel_rfl) ⟨_, rfl, by simp⟩ ?_ ?_
  ·intro listed a' X k o ho hk hdep hD hC
   have hne := getD_ne listed;have o4 := hD.old 4 (by intro j oj hj; rcases j with _|_|_|_|_|_|_|j <;> first | (injection hj with hj; subst hj; simp) | exact absurd hj (by simp));have o6 := hD.old 6 (by intro j oj hj; rcases j with _|_|_|_|_|_|_|j <;> first | (injection hj with hj; subst hj; simp) | exact absurd hj (by simp));replace o4 : a'.eval (.tmp 4) = .pointer (some ⟨w.heap.size + 1, 0, none⟩) := o4;replace o6 : a'.eval (.tmp 6) = .pointer (some ⟨w.heap.size + 3, 0, none⟩) := o6;obtain ⟨X0, hX0, hX⟩ := hC;have hcl := fun j oj (hj : _ = some oj) h e he hb => hD.closed j oj hj h e he hb;have hk5 : k < 5 -> listed.getD 5 false = false := fun hk5 => Bool.eq_false_iff.2 fun h => by
    have h4 := hD.closed 5 _ rfl h ⟨4, .chain⟩ (by simp) rfl;have h3 := hD.closed 4 _ rfl h4 ⟨3, .data⟩ (by simp) rfl;have h2 := hD.closed 3 _ rfl h3 ⟨2, .data⟩ (by simp) rfl;have h1 := hD.closed 5 _ rfl h ⟨1, .data⟩ (by simp) rfl;have h0 := hD.closed 5 _ rfl h ⟨0, .phase⟩ (by simp) rfl;have hkf := getD_false hk;rcases k with _|_|_|_|_|k
    ·rw [h0] at hkf; cases hkf
    ·rw [h1] at hkf; cases hkf
    ·rw [h2] at hkf; cases hkf
    ·rw [h3] at hkf; cases hkf
    ·rw [h4] at hkf; cases hkf
    ·omega
   have x1 : X0.cell? ⟨w.heap.size + 1, 0, none⟩ = some (.slice (some ⟨w.heap.size + 2, 0, none⟩) xs.length xs.length) := by
    rw [hX0]; split; exact cell_alloc_l _ hI1; exact hI1
   have x1f : X0.frozen? ⟨w.heap.size + 1, 0, none⟩ = false := by
    rw [hX0]; split; exact frozen_alloc_l _ hI1 hI1f; exact hI1f
   have x3 : X0.cell? ⟨w.heap.size + 3, 0, none⟩ = some (.int .u64 rz) := by
    rw [hX0]; split; exact cell_alloc_l _ hI3; exact hI3
   have xRd : Rd .u64 X0 (.slice (some ⟨w.heap.size + 2, 0, none⟩) xs.length xs.length) so := by
    rw [hX0]; split; exact hRd.alloc _; exact hRd
   have xTo : ∀ v l, Rd .u64 X0 v l -> Rd .u64 (W.alloc (.cells #[.int .u64 rz] 235)) v l := by
    intro v l; rw [hX0]; split; exact fun h => h; exact fun h => (show Rd .u64 W v l from h).alloc _
   rcases k with _|_|_|_|_|_|_|k
   ·injection ho with ho; subst ho
    rw [hk5 (by omega), if_neg (by simp)] at hX;subst hX;refine ⟨rfl, wpIn_value (w' := X) (by intro c hc; cases hc) (by intro c hc; cases hc) ?_ ⟨_, rfl, rfl, X, by rw [hne 0 3 (by omega)]; exact hX0, by rw [hne 0 5 (by omega), hk5 (by omega), if_neg (by simp)]⟩⟩;clear hdep hD hne hk5 hX0 hcl;generalize a'.eval = ρ at *;simp [execOp, go_sem, *]
   ·injection ho with ho; subst ho
    rw [hk5 (by omega), if_neg (by simp)] at hX;subst hX;have e46 := hD.has 0 _ 46 rfl rfl (hdep ⟨0, .data⟩ (by simp) rfl);simp only at e46;refine ⟨rfl, wpIn_enter (f := 202) (args := #[.slice (some ⟨w.heap.size + 2, 0, none⟩) xs.length xs.length]) (by intro c hc; cases hc) ?_ ?_⟩
    ·have ef : a'.eval (.func 202) = .func (.func 202) #[] #[] := rfl
     clear hdep hD hne hk5 hX0 hcl;generalize a'.eval = ρ at *;simp [execOp, go_sem, *]
    ·refine (trim_any _ _ _ xRd).mono ?_
     rintro e w9 ⟨v9, rfl, hv9, rfl⟩;exact ⟨v9, rfl, v9, HAL1.out ▸ xTo _ _ hv9, rfl, X, by rw [hne 1 3 (by omega)]; exact hX0, by rw [hne 1 5 (by omega), hk5 (by omega), if_neg (by simp)]⟩
   ·injection ho with ho; subst ho
    rw [hk5 (by omega), if_neg (by simp)] at hX;subst hX;refine ⟨rfl, wpIn_value (w' := X) (by intro c hc; cases hc) (by intro c hc; cases hc) ?_ ⟨_, rfl, rfl, X, by rw [hne 2 3 (by omega)]; exact hX0, by rw [hne 2 5 (by omega), hk5 (by omega), if_neg (by simp)]⟩⟩;clear hdep hD hne hk5 hX0 hcl;generalize a'.eval = ρ at *;simp [execOp, go_sem, *]
   ·injection ho with ho; subst ho
    rw [hk5 (by omega), if_neg (by simp)] at hX;subst hX;rw [getD_false hk, if_neg (by simp)] at hX0;have e48 := hD.has 2 _ 48 rfl rfl (hdep ⟨2, .data⟩ (by simp) rfl);simp only at e48;refine ⟨rfl, wpIn_value (w' := X.alloc (.cells #[.int .u64 rz] 235)) (v := .slice (some ⟨X.heap.size, 0, none⟩) 1 1) (by intro c hc; cases hc) (by intro c hc; cases hc) ?_ ⟨_, by rw [hX0]; rfl, rfl, X.alloc (.cells #[.int .u64 rz] 235), by rw [getD_now hk, if_pos rfl, hX0], by rw [hne 3 5 (by omega), hk5 (by omega), if_neg (by simp)]⟩⟩;clear hdep hD hne hk5 hX0 hcl;generalize a'.eval = ρ at *;simp [execOp, go_sem, *]
   ·injection ho with ho; subst ho
    rw [hk5 (by omega), if_neg (by simp)] at hX;subst hX;have h3 := hdep ⟨3, .data⟩ (by simp) rfl;rw [h3, if_pos rfl] at hX0;have e49 := hD.has 3 _ 49 rfl rfl h3;simp only at e49;refine ⟨rfl, wpIn_enter (f := 202) (args := #[.slice (some ⟨W.heap.size, 0, none⟩) 1 1]) (by intro c hc; cases hc) ?_ ?_⟩
    ·have ef : a'.eval (.func 202) = .func (.func 202) #[] #[] := rfl
     clear hdep hD hne hk5 hX0 hcl;generalize a'.eval = ρ at *;simp [execOp, go_sem, *]
    ·refine (trim_any _ _ [sr] (rd_one _ _ sr rz HRZ.out ?_)).mono ?_
     ·rw [hX0]; show (W.alloc (.cells #[.int .u64 rz] 235)).cell? _ = _; rw [World.cell?_alloc_at _ _ _ _ rfl]; rfl
     rintro e w9 ⟨v9, rfl, hv9, rfl⟩;exact ⟨v9, rfl, v9, HAL2.out ▸ xTo _ _ hv9, rfl, X, by rw [hne 4 3 (by omega), h3, if_pos rfl]; exact hX0, by rw [hne 4 5 (by omega), hk5 (by omega), if_neg (by simp)]⟩
   ·injection ho with ho; subst ho
    rw [getD_false hk, if_neg (by simp)] at hX;subst hX;have e47 := hD.has 1 _ 47 rfl rfl (hdep ⟨1, .data⟩ (by simp) rfl);simp only at e47;generalize hv47 : a'.eval (.tmp 47) = v47 at e47;have e47' := e47;obtain ⟨p9, c9, rfl, hc9, hm9, hr9⟩ := e47.open;refine ⟨rfl, wpIn_skip' (w' := X.setCell ⟨w.heap.size + 1, 0, none⟩ (.slice p9 (lm B9 (a / b)).length c9)) (by intro c hc; cases hc) (by intro c hc; cases hc) ?_ ⟨_, rfl, rfl, X, by rw [hne 5 3 (by omega)]; exact hX0, by rw [getD_now hk, if_pos rfl]; exact ⟨_, e47', rfl⟩⟩⟩;clear hdep hD hne hk5 hX0 hcl hr9 e47 e47';generalize a'.eval = ρ at *;simp [execOp, go_sem, *]
   ·injection ho with ho; subst ho
    have e50 := hD.has 4 _ 50 rfl rfl (hdep ⟨4, .data⟩ (by simp) rfl);refine ⟨rfl, wpIn_value (w' := X) (by intro c hc; cases hc) (by intro c hc; cases hc) (v := a'.eval (.tmp 50)) ?_ ⟨_, e50, rfl, X0, by rw [hne 6 3 (by omega)]; exact hX0, by rw [hne 6 5 (by omega)]; exact hX⟩⟩;rfl
   ·exact absurd ho (by simp)
  ·intro listed a' X hall hD hC
   have o4 := hD.old 4 (by intro j oj hj; rcases j with _|_|_|_|_|_|_|j <;> first | (injection hj with hj; subst hj; simp) | exact absurd hj (by simp));replace o4 : a'.eval (.tmp 4) = .pointer (some ⟨w.heap.size + 1, 0, none⟩) := o4;have e5 := hD.has 6 _ 5 rfl rfl (hall 6 (by simp));simp only at e5;have hdf : a'.defers = [{ target := .collected D, args := #[] }] := hD.defers;obtain ⟨X0, hX0, hX⟩ := hC;rw [hall 3 (by simp), if_pos rfl] at hX0;rw [hall 5 (by simp), if_pos rfl] at hX;obtain ⟨v, hv, hX⟩ := hX;clear hD hall;have hXD : X.heap[D]? = some (.deferred (some [])) := by
    have hDW : D < W.heap.size := (Array.getElem?_eq_some_iff.1 hK).1;rw [hX, hX0, heap_setCell_other _ _ _ _ (by simp at hD ⊢; omega)];exact (heap_old _ _ _ (by exact hDW)).trans hK
   have hBX : Below w.heap.size w X := by
    rw [hX, hX0];exact (((hB.trans ((below_drewN W 1).mono (by omega))).alloc (by simp; omega) _).setCell (by simp) _)
   have hXc : X.cell? ⟨w.heap.size + 1, 0, none⟩ = some v := by
    rw [hX];exact World.cell?_setCell_same' _ _ _ (by rw [hX0]; show ((W.alloc _).cell? _).isSome = true; rw [cell_alloc_l _ hI1]; rfl)
   have hXA : ∀ v' l, Rd .u64 (W.alloc (.cells #[.int .u64 rz] 235)) v' l -> Rd .u64 X v' l := by
    intro v' l h;rw [hX, hX0];exact RdC.set_other (w := W.drew.alloc (.cells #[.int .u64 rz] 235)) (RdC.drewN h 1) (c := .slice (some ⟨w.heap.size + 2, 0, none⟩) xs.length xs.length) (cell_alloc_l _ hI1) (by simp)
   have HXX := hid hX;clear hX;gi_wp2_with fail;show LeavesInM _ _ _ _ _ _ a'.defers _ _;rw [hdf];refine ⟨by simp, .inl ⟨_, _, rfl, run_takeDeferred hXD, ?_⟩⟩;have hne : w.heap.size + 1 ≠ D := by simp at hD; omega
   have hXc2 : (X.putObj D (Obj.deferred none)).cell? ⟨w.heap.size + 1, 0, none⟩ = some v := (World.cell?_of_block (World.putObj_heap_other hne)).trans hXc;generalize hr5 : a'.eval (.tmp 5) = v5 at e5;obtain ⟨p9, c9, rfl, hc9, hm9, hr9⟩ := hv.open;refine ⟨.tuple #[.slice p9 (lm B9 (a / b)).length c9, v5], ?_, _, rfl, ⟨_, _, rfl, rd_put (hXA _ _ hv) hXD rfl _, rd_put (hXA _ _ e5) hXD rfl _⟩, ?_⟩
   ·have t4 : a'.tmps[4]?.getD undef = .pointer (some ⟨w.heap.size + 1, 0, none⟩) := by rw [<- Array.getD_eq_getD_getElem?]; exact o4
    have t5 : a'.tmps[5]?.getD undef = v5 := by rw [<- Array.getD_eq_getD_getElem?]; exact hr5
    simp [results, Tryz.results156, go_sem, hXc2, t4, t5]
   ·exact hBX.trans (belowK_b (w := w) (Nat.le_refl _) X D _ _ (by simp at hD; omega) hXD rfl rfl)
 case stop =>
  rintro D c pre W _ _ h _;exact h.elim
theorem divide_one (w : World) (va vb : Value) (a b : Nat) (ha : Rd .u64 w va (lm B9 a)) (hb : Rd .u64 w vb (lm B9 b)) (hab : b <= a) (hb0 : 0 < b) (hb9 : b < B9) (hlen : (lm B9 a).length <= 1000000) :
 Calls Tryz.prog 156 #[va, vb] w (Ret (QR (a / b) (a % b)) w) :=
 callsIn_wide.1 (divide_one_in 6 (Nat.le_refl _) w va vb a b ha hb hab hb0 hb9 hlen)
end Go.Proofs.YtbfcmipplhkkeaaGreatDoor
