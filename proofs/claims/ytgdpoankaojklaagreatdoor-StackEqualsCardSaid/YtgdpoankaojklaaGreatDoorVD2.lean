import Derived.Test.YtgdpoankaojklaaGreatDoorVB2
import Derived.Deep.RegionWith
import Derived.Deep.DeepCutAuto
/- Integer.divide Klipperef01 -/
set_option maxHeartbeats 20000000
set_option maxRecDepth 100000
namespace Go.Proofs.YtgdpoankaojklaaGreatDoor
open Go.RowKit Go.Shelf Go.Lib
attribute [local go_sem] Oper.semAt_some
def QR (q r : Nat) (v : Value) (w' : World) : Prop := ∃ vq vr, v = .tuple #[vq, vr] /\ Rd .u64 w' vq (lm B9 q) /\ Rd .u64 w' vr (lm B9 r)
theorem Rd.drewN {k : IntKind} {w : World} {v : Value} {l : List Nat} (h : Rd k w v l) (n : Nat) : Rd k (w.drewN n) v l := RdC.drewN h n
theorem divide_less (w : World) (va vb : Value) (a b : Nat) (ha : Rd .u64 w va (lm B9 a)) (hb : Rd .u64 w vb (lm B9 b)) (hab : a < b) :
 Calls Tryz.prog 153 #[va, vb] w (Ret (QR (a / b) (a % b)) w) := by
 have hc : Hid (cmpN a b = -1) := cmpN_lt hab;have HQ : Hid (a / b = 0 /\ a % b = a) := ⟨Nat.div_eq_of_lt hab, Nat.mod_eq_of_lt hab⟩;obtain ⟨p, c, rfl, h1, h2, _⟩ := hb.open;obtain ⟨p', c', rfl, h3, h4, _⟩ := ha.open;have hal : ∀ o1 o2, Rd .u64 ((w.alloc o1).alloc o2) (.slice p' (lm B9 a).length c') (lm B9 a) := fun o1 o2 => (ha.alloc o1).alloc o2;have hbl : ∀ o1 o2, Rd .u64 ((w.alloc o1).alloc o2) (.slice p (lm B9 b).length c) (lm B9 b) := fun o1 o2 => (hb.alloc o1).alloc o2;have HA := Lib.hid hal;have HB := Lib.hid hbl;have ha0 := ha;have HA0 := Lib.hid ha0;clear hal hbl ha hb ha0;go_enter Tryz.func153, Tryz.ntmps153;go_wp2_with fail;refine (order_any _ _ _ a b (HA.out _ _) (HB.out _ _)).mono ?_;rintro e w1 ⟨_, rfl, rfl, n, rfl⟩;rw [hc.out];have HBel : Below w.heap.size w (((((w.alloc (.cells #[.slice p (lm B9 b).length c] 180)).alloc (.cells #[.slice none 0 0] 180)).drewN n).setCell ⟨w.heap.size + 1, 0, none⟩ (.slice none 0 0))) :=
  ((((Below.refl _ w).alloc (Nat.le_refl _) _).alloc (by simp) _).trans (below_drewN _ n |>.mono (by simp; omega))).setCell (by simp) _
 have hcell : (((((w.alloc (.cells #[.slice p (lm B9 b).length c] 180)).alloc (.cells #[.slice none 0 0] 180)).drewN n).setCell ⟨w.heap.size + 1, 0, none⟩ (.slice none 0 0))).cell? ⟨w.heap.size + 1, 0, none⟩ = some (.slice none 0 0) :=
  World.cell?_setCell_same' _ _ _ (by rw [World.cell?_drewN, World.cell?_alloc_at _ _ _ _ (by simp)]; rfl)
 have HC := Lib.hid hcell;clear hcell;go_wp2_with fail;refine bodyPost_ret (v := .tuple #[.slice none 0 0, .slice p' (lm B9 a).length c']) (by simp [results, Tryz.results153, go_sem, HC.out]) rfl ?_;refine ⟨_, rfl, ⟨_, _, rfl, ?_, ?_⟩, HBel⟩
 ·rw [HQ.out.1, lm_zero]; exact RdC.nil0 _ _
 ·rw [HQ.out.2]
  exact RdC.below HA0.out HBel
end Go.Proofs.YtgdpoankaojklaaGreatDoor
namespace Go.Proofs.YtgdpoankaojklaaGreatDoor
open Go.RowKit Go.Shelf Go.Lib
attribute [local go_sem] Oper.semAt_some
def stepD (xs : List Nat) (b : Nat) (s : List Nat × Nat) (i : Nat) : List Nat × Nat := (s.1.set i ((s.2 * B9 + (xs[i]?.getD 0)) / b), (s.2 * B9 + (xs[i]?.getD 0)) % b)
def foldD (xs : List Nat) (b : Nat) (pre : List Nat) : List Nat × Nat := pre.foldl (stepD xs b) (List.replicate xs.length 0, 0)
theorem foldD_snoc (xs : List Nat) (b : Nat) (pre : List Nat) (i : Nat) : foldD xs b (pre ++ [i]) = stepD xs b (foldD xs b pre) i := by simp [foldD]
theorem foldD_inv {xs : List Nat} {b : Nat} (hx : ∀ x ∈ xs, x < B9) (hb : 0 < b) (pre : List Nat) :
 (foldD xs b pre).1.length = xs.length /\ Lt9 (foldD xs b pre).1 /\ (foldD xs b pre).2 < b := by
 generalize hn : pre.length = n
 induction n generalizing pre with
 | zero => obtain rfl := List.length_eq_zero_iff.1 hn; simp [foldD, Lt9.replicate]; exact hb
 | succ n ih =>
   rcases List.eq_nil_or_concat pre with rfl | ⟨L, i, rfl⟩
   ·simp at hn
   ·rw [List.concat_eq_append] at *
    obtain ⟨h1, h2, h3⟩ := ih L (by simp at hn; omega);rw [foldD_snoc];have hi := getD_lt9 hx i;unfold stepD;refine ⟨by simp [h1], h2.set _ _ ?_, Nat.mod_lt _ hb⟩;apply Nat.div_lt_of_lt_mul;have h4 : ((foldD xs b L).2 + 1) * B9 <= b * B9 := Nat.mul_le_mul_right _ h3;rw [Nat.add_mul] at h4;omega
theorem stepD_arith {B x r o q s b : Nat} (h5 : b * q + s = r * B + x) : x + B * (b * o + r) = b * (q + B * o) + s := by grind
theorem foldD_val {xs : List Nat} {b : Nat} (hx : ∀ x ∈ xs, x < B9) (hb : 0 < b) (k : Nat) (hk : k <= xs.length) :
 lval B9 (xs.drop (xs.length - k)) = b * lval B9 ((foldD xs b (bwd xs.length k)).1.drop (xs.length - k)) + (foldD xs b (bwd xs.length k)).2 := by
 induction k with
 | zero =>
   have h1 := (foldD_inv hx hb (bwd xs.length 0)).1;rw [Nat.sub_zero, List.drop_eq_nil_of_le (Nat.le_refl _), List.drop_eq_nil_of_le (by omega)];simp [lval, bwd, foldD]
 | succ k ih =>
   have ih' := ih (by omega);obtain ⟨h1, h2, h3⟩ := foldD_inv hx hb (bwd xs.length k);rw [bwd_succ, foldD_snoc];have hi : xs.length - 1 - k < xs.length := by omega
   have hi2 : xs.length - 1 - k < (foldD xs b (bwd xs.length k)).1.length := by omega
   have e1 : xs.length - (k + 1) = xs.length - 1 - k := by omega
   have e2 : xs.length - 1 - k + 1 = xs.length - k := by omega
   unfold stepD;simp only;have hi3 : xs.length - 1 - k < ((foldD xs b (bwd xs.length k)).1.set (xs.length - 1 - k) (((foldD xs b (bwd xs.length k)).2 * B9 + (xs[xs.length - 1 - k]?.getD 0)) / b)).length := by rw [List.length_set]; exact hi2
   rw [e1, List.drop_eq_getElem_cons hi, e2, List.drop_eq_getElem_cons hi3, e2, List.getElem_set_self, List.drop_set_of_lt (by omega)];simp only [lval];rw [ih'];have hg : xs[xs.length - 1 - k]?.getD 0 = xs[xs.length - 1 - k] := by simp [hi]
   rw [hg];exact stepD_arith (Nat.div_add_mod _ b)
theorem foldD_all {a b : Nat} (hb : 0 < b) (hb9 : b < B9) :
 dropZ (foldD (lm B9 a) b (bwd (lm B9 a).length (lm B9 a).length)).1 = lm B9 (a / b) /\ dropZ [(foldD (lm B9 a) b (bwd (lm B9 a).length (lm B9 a).length)).2] = lm B9 (a % b) := by
 have hx := lm_lt B9 a two_le_B9;obtain ⟨h1, h2, h3⟩ := foldD_inv hx hb (bwd (lm B9 a).length (lm B9 a).length);have h4 := foldD_val hx hb (lm B9 a).length (Nat.le_refl _);rw [Nat.sub_self, List.drop_zero, List.drop_zero, lval_lm B9 a two_le_B9] at h4;generalize foldD (lm B9 a) b (bwd (lm B9 a).length (lm B9 a).length) = s at *;have e1 : a / b = lval B9 s.1 := by rw [h4, Nat.mul_add_div hb, Nat.div_eq_of_lt h3, Nat.add_zero]
 have e2 : a % b = s.2 := by rw [h4, Nat.mul_add_mod_self_left, Nat.mod_eq_of_lt h3]
 rw [e1, e2];refine ⟨dropZ_eq B9 two_le_B9 _ h2, ?_⟩;rw [dropZ_eq B9 two_le_B9 [s.2] (by intro y hy; simp at hy; omega)];simp [lval]
theorem cell_alloc_l {W : World} {p : Addr} {v : Value} (o : Obj) (h : W.cell? p = some v) : (W.alloc o).cell? p = some v := cell_kept h (World.grownBy_alloc W o none) (fun r e => by cases e)
theorem frozen_alloc_l {W : World} {p : Addr} {v : Value} (o : Obj) (h : W.cell? p = some v) (hf : W.frozen? p = false) : (W.alloc o).frozen? p = false := (frozen_kept h (World.grownBy_alloc W o none) (fun r e => by cases e)).trans hf
theorem rd_one (X : World) (h s : Nat) (z : Int) (hz : z = s) (hc : X.cell? ⟨h, 0, none⟩ = some (.int .u64 z)) : Rd .u64 X (.slice (some ⟨h, 0, none⟩) 1 1) [s] := by
 subst hz;refine ⟨_, _, rfl, by simp, by unfold maxLen; omega, by simp, fun _ => ⟨h, 0, rfl, fun i x hx => ?_⟩⟩;rcases i with _ | i
 ·simp at hx; subst hx; exact hc
 ·simp at hx
def zeros (n : Nat) : Array Value := ((List.replicate n 0).map fun x : Nat => Value.int .u64 (x : Int)).toArray
theorem rd_put {k : IntKind} {w : World} {v : Value} {l : List Nat} (h : Rd k w v l) {D : Nat} {o : Obj} (hD : w.heap[D]? = some o) (ho : o.isCells = false) (o' : Obj) : Rd k (w.putObj D o') v l := by
 obtain ⟨p, c, hv, h1, h2, h3, h4⟩ := h;refine ⟨p, c, hv, h1, h2, h3, fun hne => ?_⟩;obtain ⟨b, off, hp, hc⟩ := h4 hne;refine ⟨b, off, hp, fun i x hx => ?_⟩;have h5 := hc i x hx;obtain ⟨ob, hob, hcs⟩ := cells_of_cell h5;have hbD : b ≠ D := fun e => by subst e; rw [hD] at hob; cases hob; rw [ho] at hcs; cases hcs
 exact (World.cell?_of_block (World.putObj_heap_other hbD)).trans h5
theorem run_make_u64 (n : Nat) (hn : n <= 10000000) (w : World) :
 (Instr.makeSlice 180 (.int .i64 (n : Int)) (.int .i64 (n : Int))).run Tryz.prog w = .ok (.slice (some ⟨w.heap.size, 0, none⟩) n n) (w.alloc (.cells (zeros n) 215)) := by
 obtain ⟨i0, hi, hz0, hz1, hz2⟩ := info_parts Tryz.info_u64;have h := run_make (P := Tryz.prog) w 180 215 i0 (.int .u64 0) Tryz.underlying180 hi hz0 .i64 .i64 (n : Int) (n : Int) (by omega) (Int.le_refl _) (by rw [hz2]; omega) (by omega);rw [h, hz1];have e : madeCells (Value.int .u64 0).cells ((n : Int).toNat * 1) = zeros n := by
  unfold zeros;simp only [Int.toNat_natCast, Nat.mul_one];apply Array.ext
  ·simp [size_madeCells]
  ·intro i h1 h2
   simp [madeCells, Value.cells, Nat.mod_one]
 rw [e];simp only [Int.toNat_natCast]
theorem divide_one_in (n : Nat) (hn : 6 <= n) (w : World) (va vb : Value) (a b : Nat) (ha : Rd .u64 w va (lm B9 a)) (hb : Rd .u64 w vb (lm B9 b)) (hab : b <= a) (hb0 : 0 < b) (hb9 : b < B9)
 (hlen : (lm B9 a).length <= 1000000) :
 CallsIn Fence.wide n Tryz.prog 153 #[va, vb] w (Ret (QR (a / b) (a % b)) w) := by
 have h1 : 1 <= n := by omega
 obtain ⟨cz, hcz⟩ : ∃ cz, cz = cmpN a b := ⟨_, rfl⟩;have hcz0 : ¬ cz < 0 := by rw [hcz]; unfold cmpN; split; omega; split <;> omega
 have hall := foldD_all (a := a) hb0 hb9;have hinv := fun pre => foldD_inv (lm_lt B9 a two_le_B9) hb0 pre;have hlb : lm B9 b = [b] := by
  have := (dropZ_eq B9 two_le_B9 [b] (by intro y hy; simp at hy; omega)).symm;simp only [lval, Nat.mul_zero, Nat.add_zero] at this;rw [this, <- List.nil_append [b], dropZ_snoc_pos _ _ (by omega)]
 have hmk := run_make_u64 (lm B9 a).length (by omega);obtain ⟨p, c, rfl, hc, hm, hr⟩ := ha.open;have hb' := hb;rw [hlb] at hb';obtain ⟨q, d, rfl, hd, hm2, hs⟩ := hb'.open;obtain ⟨bb, ob, rfl, hbl, hbc⟩ := hs (by simp);have hbcell := hbc 0 (by simp);simp only [List.getElem_cons_zero, Nat.add_zero] at hbcell;refine callsIn_of_wp_marks Tryz.func153 rfl trivial ?_ rfl;simp only [Tryz.ntmps153, List.size_toArray, List.length_cons, List.length_nil, Nat.reduceAdd, Nat.reduceSub, Array.replicate_succ, Array.replicate_zero, List.push_toArray, List.append_toArray, List.nil_append, List.cons_append];have HALL := Lib.hid hall;have HINV := Lib.hid hinv;have HR := Lib.hid hr;have HCZ := Lib.hid hcz;have HA := Lib.hid ha;have HB := Lib.hid hb;have HLT := Lib.hid (lm_lt B9 a two_le_B9);clear hall hinv hr hcz ha hb hs hbc hb' hlb;gi_wp2_with fail;refine ⟨trivial, ?_⟩;refine CallsIn.mono (callsIn_wide.2 (order_any _ _ _ a b ((HA.out.alloc _).alloc _) ((HB.out.alloc _).alloc _))) ?_;rintro e w1 ⟨_, rfl, rfl, j, rfl⟩;rw [<- HCZ.out];gi_wp2_with fail;generalize hX : ((((w.alloc (Obj.cells #[Value.slice (some { block := bb, off := ob }) 1 d] 180)).alloc (Obj.cells #[Value.slice none 0 0] 180)).drewN j).setCell { block := w.heap.size + 1, off := 0 }
  (Value.slice (some { block := w.heap.size + 1 + 1, off := 0 }) (lm B9 a).length (lm B9 a).length)) = X
 have hXs : X.heap.size = w.heap.size + 2 := by rw [<- hX]; simp [World.setCell]
 have hXb : Below w.heap.size w X := by
  rw [<- hX];exact ((((Below.refl _ w).alloc (Nat.le_refl _) _).alloc (by simp) _).trans (below_drewN _ j |>.mono (by simp; omega))).setCell (by simp) _
 have x0 : X.cell? ⟨w.heap.size, 0, none⟩ = some (.slice (some ⟨bb, ob, none⟩) 1 d) := by
  rw [<- hX, World.cell?_setCell_other _ _ _ _ (by simp), World.cell?_drewN, World.cell?_alloc_past _ _ _ (by simp), World.cell?_alloc_at _ _ _ _ rfl]; rfl
 have x1 : X.cell? ⟨w.heap.size + 1, 0, none⟩ = some (.slice (some ⟨w.heap.size + 2, 0, none⟩) (lm B9 a).length (lm B9 a).length) := by
  rw [<- hX];exact World.cell?_setCell_same' _ _ _ (by rw [World.cell?_drewN, World.cell?_alloc_at _ _ _ _ (by simp)]; rfl)
 have x1f : X.frozen? ⟨w.heap.size + 1, 0, none⟩ = false := by
  rw [<- hX, World.frozen?_setCell];exact World.frozen?_alloc_at _ _ _ _ (by simp)
 have x2 := heap_alloc_new X (Obj.cells (zeros (lm B9 a).length) 215);rw [hXs] at x2;clear hX;generalize hW1 : (X.alloc (Obj.cells (zeros (lm B9 a).length) 215)).alloc (Obj.cells #[Value.int IntKind.u64 0] 215) = W1;have hsz : W1.heap.size = w.heap.size + 4 := by rw [<- hW1]; simp; omega
 have hbw : Below w.heap.size w W1 := by
  rw [<- hW1];exact (hXb.alloc hXb.size _).alloc (by simp; omega) _
 have c0 : W1.cell? ⟨w.heap.size, 0, none⟩ = some (.slice (some ⟨bb, ob, none⟩) 1 d) := by
  rw [<- hW1, World.cell?_alloc_past _ _ _ (by simp; omega), World.cell?_alloc_past _ _ _ (by show w.heap.size < X.heap.size; omega)]; exact x0
 have c1 : W1.cell? ⟨w.heap.size + 1, 0, none⟩ = some (.slice (some ⟨w.heap.size + 2, 0, none⟩) (lm B9 a).length (lm B9 a).length) := by
  rw [<- hW1, World.cell?_alloc_past _ _ _ (by simp; omega), World.cell?_alloc_past _ _ _ (by show w.heap.size + 1 < X.heap.size; omega)]; exact x1
 have c1f : W1.frozen? ⟨w.heap.size + 1, 0, none⟩ = false := by rw [<- hW1]; exact frozen_alloc_l _ (cell_alloc_l _ x1) (frozen_alloc_l _ x1 x1f)
 have c2 : Arr .u64 W1 (w.heap.size + 2) 215 (List.replicate (lm B9 a).length 0) := by
  rw [<- hW1];unfold Arr;rw [heap_old _ _ _ (by simp; omega), x2];rfl
 have c3 : W1.cell? ⟨w.heap.size + 3, 0, none⟩ = some (.int .u64 0) /\ W1.frozen? ⟨w.heap.size + 3, 0, none⟩ = false := by
  rw [<- hW1];exact ⟨by rw [World.cell?_alloc_at _ _ _ _ (by simp; omega)]; rfl, World.frozen?_alloc_at _ _ _ _ (by simp; omega)⟩
 clear hW1 x0 x1 x1f x2 hXb hXs X;refine ⟨trivial, ?_⟩;refine CallsIn.mono (callsIn_wide.2 (backward_any _ _ _ _)) ?_;rintro e w3 ⟨rfl, rfl⟩;gi_wp2_with fail;have hbW : Below w.heap.size w (W1.alloc (.cells #[.slice p (lm B9 a).length c] 180)) := hbw.alloc hbw.size _;have hr2 : lm B9 a ≠ [] -> ∃ b off, p = some ⟨b, off, none⟩ /\ b < w.heap.size /\ ∀ (i : Nat) (hi : i < (lm B9 a).length), (W1.alloc (.cells #[.slice p (lm B9 a).length c] 180)).cell? ⟨b, off + i, none⟩ = some (.int .u64 (((lm B9 a)[i] : Nat) : Int)) := fun hne => by
  obtain ⟨b, off, hp, hbl, hcell⟩ := HR.out hne;exact ⟨b, off, hp, hbl, fun i hi => (zcq hbW hbl (hcell i hi) :)⟩
 have hbc2 := zcq hbw hbl hbcell;generalize lm B9 a = xs at *;refine wpIn_rangeFunc_ownF rfl h1 (gf := 202) (lb := #[.pointer (some ⟨w.heap.size + 4, 0, none⟩)]) rfl trivial (enters_of Tryz.func202 (by kernel_rfl) rfl)
  (bwd_stops Fence.wide (n - 1) trivial rfl (by omega) (w.heap.size + 4) w.heap.size _ c xs hlen _ (by simp; omega) (by simp; omega) (World.cell?_alloc_at _ _ _ _ hsz.symm) hr2) (fun h k => KeepAt.trans h k) (keepAt_b (by simp; omega) (by simp; omega)) (Below.refl _ _) (fun _ => rfl)
  (fun (pre : List (Ix xs)) W => (W.cell? ⟨w.heap.size, 0, none⟩ = some (.slice (some ⟨bb, ob, none⟩) 1 d) /\ (W.cell? ⟨w.heap.size + 1, 0, none⟩ = some (.slice (some ⟨w.heap.size + 2, 0, none⟩) xs.length xs.length) /\ W.frozen? ⟨w.heap.size + 1, 0, none⟩ = false)
    /\ Arr .u64 W (w.heap.size + 2) 215 (foldD xs b (pre.map Subtype.val)).1 /\ W.cell? ⟨w.heap.size + 3, 0, none⟩ = some (.int .u64 (foldD xs b (pre.map Subtype.val)).2) /\ W.frozen? ⟨w.heap.size + 3, 0, none⟩ = false
    /\ W.heap[w.heap.size + 4]? = some (.cells #[.slice p xs.length c] 180)) /\ Below w.heap.size w W)
  (fun _ _ _ => False)
  (OwnFrom.and (Own.from (fun s A B row hs hg' hr => ⟨cell_kept hs.1 hg' hr, ⟨cell_kept hs.2.1.1 hg' hr, (frozen_kept hs.2.1.1 hg' hr).trans hs.2.1.2⟩, (grownBy_keeps_cells hg' hr hs.2.2.1 rfl).trans hs.2.2.1, cell_kept hs.2.2.2.1 hg' hr, (frozen_kept hs.2.2.2.1 hg' hr).trans hs.2.2.2.2.1, (grownBy_keeps_cells hg' hr hs.2.2.2.2.2 rfl).trans hs.2.2.2.2.2⟩) _) (ownFrom_below (Nat.le_refl _) (by simp; omega)))
  (fun _ _ _ _ _ hs _ _ => hs)
  ⟨⟨cell_alloc_l _ c0, ⟨cell_alloc_l _ c1, frozen_alloc_l _ c1 c1f⟩, (heap_old _ _ _ (by omega)).trans c2, cell_alloc_l _ c3.1, frozen_alloc_l _ c3.1 c3.2, by rw [<- hsz]; exact heap_alloc_new _ _⟩, hbW⟩
  ?a1 ?assign ?body ?done ?stop
 case assign =>
  intro l x W K hK;dsimp only [encBwd]
  gi_wp2
  exact hK
 case body =>
  rintro l pre ix W ⟨⟨hI0, ⟨hI1, hI1f⟩, hI2, hI3, hI4, hI5⟩, hB⟩ hpl;have hix := ix.2;generalize hi0 : ix.1 = i at *;have HI0 := Lib.hid hi0;obtain ⟨hl1, hl2, hl3⟩ := HINV.out (pre.map Subtype.val);have hxz9 : xs[i]?.getD 0 < B9 := getD_lt9 HLT.out i;have HST : Hid (foldD xs b ((pre ++ [ix]).map Subtype.val) = stepD xs b (foldD xs b (pre.map Subtype.val)) i) := by
   unfold Hid; rw [List.map_append, List.map_cons, List.map_nil, foldD_snoc, hi0]
  generalize foldD xs b (pre.map Subtype.val) = s at *;obtain ⟨so, sr⟩ := s;have hio : i < so.length := by rw [hl1]; exact hix
  obtain ⟨rz, hrz⟩ : ∃ rz : Int, rz = (sr : Int) := ⟨_, rfl⟩;generalize hxz : ((xs[i]?.getD 0 : Nat) : Int) = xz;obtain ⟨bz, hbz⟩ : ∃ bz : Int, bz = (b : Int) := ⟨_, rfl⟩;simp only [<- hrz] at hI3;have hbW2 := zcq hB hbl hbcell;rw [<- hbz] at hbW2;have b1 : 0 <= rz /\ rz < bz /\ 0 < bz /\ bz < 1000000000 /\ 0 <= xz /\ xz < 1000000000 := by unfold B9 at hxz9 hb9; simp only at hl3; omega
  have hcell := hI2.cell i hio;have hfro := hI2.frozen i;have HRZ := Lib.hid hrz;have HXZ := Lib.hid hxz;have HBZ := Lib.hid hbz;clear hi0 hrz hxz hbz hl1;gi_wp2_with fail;obtain ⟨q, hq⟩ : ∃ q : Int, q = rz * 1000000000 + xz := ⟨_, rfl⟩;have b2 : 0 <= q /\ q <= 18446744073709551615 := by omega
  rw [<- hq];have HQ := Lib.hid hq;clear hq;obtain ⟨qq, hqq⟩ : ∃ qq : Int, qq = q.tdiv bz := ⟨_, rfl⟩;obtain ⟨rr, hrr⟩ : ∃ rr : Int, rr = q.tmod bz := ⟨_, rfl⟩;have hbz0 : ¬ bz = 0 := by omega
  have hqq0 : 0 <= qq /\ qq <= q := by
   rw [hqq];exact ⟨Int.tdiv_nonneg b2.1 (by omega), by rw [Int.tdiv_eq_ediv_of_nonneg b2.1]; exact Int.ediv_le_self _ b2.1⟩
  have hwq : IntKind.u64.wrap (q.tdiv bz) = q.tdiv bz := by
   rw [<- hqq];simp [IntKind.wrap, IntKind.bits, IntKind.signed];omega
  generalize hW' : W.setCell ⟨w.heap.size + 1 + 1 + 1, 0, none⟩ (Value.int .u64 q) = W';have d0 : W'.cell? ⟨w.heap.size, 0, none⟩ = some (.slice (some ⟨bb, ob, none⟩) 1 d) := by rw [<- hW', World.cell?_setCell_other _ _ _ _ (by simp)]; exact hI0
  have d1 : W'.cell? ⟨w.heap.size + 1, 0, none⟩ = some (.slice (some ⟨w.heap.size + 2, 0, none⟩) xs.length xs.length) := by rw [<- hW', World.cell?_setCell_other _ _ _ _ (by simp)]; exact hI1
  have d2 : W'.cell? ⟨w.heap.size + 2, i, none⟩ = some (.int .u64 (so[i] : Nat)) := by rw [<- hW', World.cell?_setCell_other _ _ _ _ (by simp)]; exact hcell
  have d2f : W'.frozen? ⟨w.heap.size + 2, i, none⟩ = false := by rw [<- hW', World.frozen?_setCell]; exact hfro
  have d3 : W'.cell? ⟨w.heap.size + 3, 0, none⟩ = some (.int .u64 q) := by rw [<- hW']; exact World.cell?_setCell_same' _ _ _ (by rw [show w.heap.size + 1 + 1 + 1 = w.heap.size + 3 by omega, hI3]; rfl)
  have d3f : W'.frozen? ⟨w.heap.size + 3, 0, none⟩ = false := by rw [<- hW', World.frozen?_setCell]; exact hI4
  have d4 : W'.cell? ⟨bb, ob, none⟩ = some (.int .u64 bz) := by rw [<- hW', World.cell?_setCell_other _ _ _ _ (by simp only [ne_eq, Addr.mk.injEq, not_and]; omega)]; exact hbW2
  have HW' := Lib.hid hW';clear hW';refine wpIn_region_drawn (fun k v => v = match k with
   | 0 => .slice (some ⟨w.heap.size + 2, 0, none⟩) xs.length xs.length | 1 => .int .i64 i | 2 => .int .u64 q | 3 => .slice (some ⟨bb, ob, none⟩) 1 d | 4 => .pointer (some ⟨bb, ob, none⟩) | 5 => .int .u64 bz | 6 => .int .u64 qq
   | 7 => .int .u64 q | 8 => .slice (some ⟨bb, ob, none⟩) 1 d | 9 => .pointer (some ⟨bb, ob, none⟩) | 10 => .int .u64 bz | 11 => .int .u64 rr | 12 => .pointer (some ⟨w.heap.size + 2, i, none⟩) | _ => undef)
   (fun listed X => X = (if listed.getD 14 false then (W'.drew.setCell ⟨w.heap.size + 2, i, none⟩ (.int .u64 qq)).setCell ⟨w.heap.size + 3, 0, none⟩ (.int .u64 rr) else if listed.getD 13 false then W'.drew.setCell ⟨w.heap.size + 2, i, none⟩ (.int .u64 qq) else W'.drew))
   (by kernel_rfl) (by kernel_rfl) (by simp) ?_ ?_
  ·intro listed a' X k o ho hk hdep hD hC
   have hne := getD_ne listed;have h14 : listed.getD 14 false = false := by
    rcases Nat.lt_or_ge k 14 with hk14 | hk14
    ·refine Bool.eq_false_iff.2 fun h => ?_
     have hcl := fun e he => hD.closed 14 _ rfl h e he;have := hcl ⟨k, .phase⟩ (by
      rcases k with _|_|_|_|_|_|_|_|_|_|_|_|_|_|k <;> first | (exfalso; omega) | simp) rfl
     rw [getD_false hk] at this;cases this
    ·obtain rfl : k = 14 := by
      have := (Array.getElem?_eq_some_iff.1 ho).1;simp at this;omega
     exact getD_false hk
   rw [if_neg (by rw [h14]; simp)] at hC;have x0 : X.cell? ⟨w.heap.size, 0, none⟩ = some (.slice (some ⟨bb, ob, none⟩) 1 d) := by rw [hC]; split; rw [World.cell?_setCell_other _ _ _ _ (by simp)]; exact d0; exact d0
   have x1 : X.cell? ⟨w.heap.size + 1, 0, none⟩ = some (.slice (some ⟨w.heap.size + 2, 0, none⟩) xs.length xs.length) := by rw [hC]; split; rw [World.cell?_setCell_other _ _ _ _ (by simp)]; exact d1; exact d1
   have x3 : X.cell? ⟨w.heap.size + 3, 0, none⟩ = some (.int .u64 q) := by rw [hC]; split; rw [World.cell?_setCell_other _ _ _ _ (by simp)]; exact d3; exact d3
   have x3f : X.frozen? ⟨w.heap.size + 3, 0, none⟩ = false := by rw [hC]; split; rw [World.frozen?_setCell]; exact d3f; exact d3f
   have x4 : X.cell? ⟨bb, ob, none⟩ = some (.int .u64 bz) := by rw [hC]; split; rw [World.cell?_setCell_other _ _ _ _ (by simp only [ne_eq, Addr.mk.injEq, not_and]; omega)]; exact d4; exact d4
   have o3 := hD.old 3 (by intro j oj hj; rcases j with _|_|_|_|_|_|_|_|_|_|_|_|_|_|_|j <;> first | (injection hj with hj; subst hj; simp) | exact absurd hj (by simp));have o4 := hD.old 4 (by intro j oj hj; rcases j with _|_|_|_|_|_|_|_|_|_|_|_|_|_|_|j <;> first | (injection hj with hj; subst hj; simp) | exact absurd hj (by simp));have o6 := hD.old 6 (by intro j oj hj; rcases j with _|_|_|_|_|_|_|_|_|_|_|_|_|_|_|j <;> first | (injection hj with hj; subst hj; simp) | exact absurd hj (by simp));have o7 := hD.old 7 (by intro j oj hj; rcases j with _|_|_|_|_|_|_|_|_|_|_|_|_|_|_|j <;> first | (injection hj with hj; subst hj; simp) | exact absurd hj (by simp));replace o3 : a'.eval (.tmp 3) = .pointer (some ⟨w.heap.size, 0, none⟩) := o3;replace o4 : a'.eval (.tmp 4) = .pointer (some ⟨w.heap.size + 1, 0, none⟩) := o4;replace o6 : a'.eval (.tmp 6) = .pointer (some ⟨w.heap.size + 3, 0, none⟩) := o6;replace o7 : a'.eval (.tmp 7) = .int .i64 i := o7;rcases k with _|_|_|_|_|_|_|_|_|_|_|_|_|_|_|k
   ·injection ho with ho; subst ho
    refine ⟨rfl, wpIn_value (w' := X) (by intro c hc; cases hc) (by intro c hc; cases hc) ?_ ⟨_, rfl, rfl, by rw [hne 0 14 (by omega), hne 0 13 (by omega), if_neg (by rw [h14]; simp)]; exact hC⟩⟩;clear hdep hD hne h14 hC;have ec : a'.eval (.const (.int .i64 0)) = .int .i64 0 := rfl;generalize a'.eval = ρ at *;simp [execOp, go_sem, *]
   ·injection ho with ho; subst ho
    refine ⟨rfl, wpIn_value (w' := X) (by intro c hc; cases hc) (by intro c hc; cases hc) ?_ ⟨_, rfl, rfl, by rw [hne 1 14 (by omega), hne 1 13 (by omega), if_neg (by rw [h14]; simp)]; exact hC⟩⟩;clear hdep hD hne h14 hC;have ec : a'.eval (.const (.int .i64 0)) = .int .i64 0 := rfl;generalize a'.eval = ρ at *;simp [execOp, go_sem, *]
   ·injection ho with ho; subst ho
    refine ⟨rfl, wpIn_value (w' := X) (by intro c hc; cases hc) (by intro c hc; cases hc) ?_ ⟨_, rfl, rfl, by rw [hne 2 14 (by omega), hne 2 13 (by omega), if_neg (by rw [h14]; simp)]; exact hC⟩⟩;clear hdep hD hne h14 hC;have ec : a'.eval (.const (.int .i64 0)) = .int .i64 0 := rfl;generalize a'.eval = ρ at *;simp [execOp, go_sem, *]
   ·injection ho with ho; subst ho
    refine ⟨rfl, wpIn_value (w' := X) (by intro c hc; cases hc) (by intro c hc; cases hc) ?_ ⟨_, rfl, rfl, by rw [hne 3 14 (by omega), hne 3 13 (by omega), if_neg (by rw [h14]; simp)]; exact hC⟩⟩;clear hdep hD hne h14 hC;have ec : a'.eval (.const (.int .i64 0)) = .int .i64 0 := rfl;generalize a'.eval = ρ at *;simp [execOp, go_sem, *]
   ·injection ho with ho; subst ho
    have e36 := hD.has 3 _ 36 rfl rfl (hdep ⟨3, .data⟩ (by simp) rfl);refine ⟨rfl, wpIn_value (w' := X) (by intro c hc; cases hc) (by intro c hc; cases hc) ?_ ⟨_, rfl, rfl, by rw [hne 4 14 (by omega), hne 4 13 (by omega), if_neg (by rw [h14]; simp)]; exact hC⟩⟩;clear hdep hD hne h14 hC;have ec : a'.eval (.const (.int .i64 0)) = .int .i64 0 := rfl;generalize a'.eval = ρ at *;simp [execOp, go_sem, *]
   ·injection ho with ho; subst ho
    have e37 := hD.has 4 _ 37 rfl rfl (hdep ⟨4, .data⟩ (by simp) rfl);refine ⟨rfl, wpIn_value (w' := X) (by intro c hc; cases hc) (by intro c hc; cases hc) ?_ ⟨_, rfl, rfl, by rw [hne 5 14 (by omega), hne 5 13 (by omega), if_neg (by rw [h14]; simp)]; exact hC⟩⟩;clear hdep hD hne h14 hC;have ec : a'.eval (.const (.int .i64 0)) = .int .i64 0 := rfl;generalize a'.eval = ρ at *;simp [execOp, go_sem, *]
   ·injection ho with ho; subst ho
    have e35 := hD.has 2 _ 35 rfl rfl (hdep ⟨2, .data⟩ (by simp) rfl);have e38 := hD.has 5 _ 38 rfl rfl (hdep ⟨5, .data⟩ (by simp) rfl);refine ⟨rfl, wpIn_value (w' := X) (by intro c hc; cases hc) (by intro c hc; cases hc) ?_ ⟨_, rfl, rfl, by rw [hne 6 14 (by omega), hne 6 13 (by omega), if_neg (by rw [h14]; simp)]; exact hC⟩⟩;clear hdep hD hne h14 hC;have ec : a'.eval (.const (.int .i64 0)) = .int .i64 0 := rfl;generalize a'.eval = ρ at *;simp [execOp, go_sem, *]
   ·injection ho with ho; subst ho
    refine ⟨rfl, wpIn_value (w' := X) (by intro c hc; cases hc) (by intro c hc; cases hc) ?_ ⟨_, rfl, rfl, by rw [hne 7 14 (by omega), hne 7 13 (by omega), if_neg (by rw [h14]; simp)]; exact hC⟩⟩;clear hdep hD hne h14 hC;have ec : a'.eval (.const (.int .i64 0)) = .int .i64 0 := rfl;generalize a'.eval = ρ at *;simp [execOp, go_sem, *]
   ·injection ho with ho; subst ho
    refine ⟨rfl, wpIn_value (w' := X) (by intro c hc; cases hc) (by intro c hc; cases hc) ?_ ⟨_, rfl, rfl, by rw [hne 8 14 (by omega), hne 8 13 (by omega), if_neg (by rw [h14]; simp)]; exact hC⟩⟩;clear hdep hD hne h14 hC;have ec : a'.eval (.const (.int .i64 0)) = .int .i64 0 := rfl;generalize a'.eval = ρ at *;simp [execOp, go_sem, *]
   ·injection ho with ho; subst ho
    have e41 := hD.has 8 _ 41 rfl rfl (hdep ⟨8, .data⟩ (by simp) rfl);refine ⟨rfl, wpIn_value (w' := X) (by intro c hc; cases hc) (by intro c hc; cases hc) ?_ ⟨_, rfl, rfl, by rw [hne 9 14 (by omega), hne 9 13 (by omega), if_neg (by rw [h14]; simp)]; exact hC⟩⟩;clear hdep hD hne h14 hC;have ec : a'.eval (.const (.int .i64 0)) = .int .i64 0 := rfl;generalize a'.eval = ρ at *;simp [execOp, go_sem, *]
   ·injection ho with ho; subst ho
    have e42 := hD.has 9 _ 42 rfl rfl (hdep ⟨9, .data⟩ (by simp) rfl);refine ⟨rfl, wpIn_value (w' := X) (by intro c hc; cases hc) (by intro c hc; cases hc) ?_ ⟨_, rfl, rfl, by rw [hne 10 14 (by omega), hne 10 13 (by omega), if_neg (by rw [h14]; simp)]; exact hC⟩⟩;clear hdep hD hne h14 hC;have ec : a'.eval (.const (.int .i64 0)) = .int .i64 0 := rfl;generalize a'.eval = ρ at *;simp [execOp, go_sem, *]
   ·injection ho with ho; subst ho
    have e40 := hD.has 7 _ 40 rfl rfl (hdep ⟨7, .data⟩ (by simp) rfl);have e43 := hD.has 10 _ 43 rfl rfl (hdep ⟨10, .data⟩ (by simp) rfl);refine ⟨rfl, wpIn_value (w' := X) (by intro c hc; cases hc) (by intro c hc; cases hc) ?_ ⟨_, rfl, rfl, by rw [hne 11 14 (by omega), hne 11 13 (by omega), if_neg (by rw [h14]; simp)]; exact hC⟩⟩;clear hdep hD hne h14 hC;have ec : a'.eval (.const (.int .i64 0)) = .int .i64 0 := rfl;generalize a'.eval = ρ at *;simp [execOp, go_sem, *]
   ·injection ho with ho; subst ho
    have e33 := hD.has 0 _ 33 rfl rfl (hdep ⟨0, .data⟩ (by simp) rfl);have e34 := hD.has 1 _ 34 rfl rfl (hdep ⟨1, .data⟩ (by simp) rfl);refine ⟨rfl, wpIn_value (w' := X) (by intro c hc; cases hc) (by intro c hc; cases hc) ?_ ⟨_, rfl, rfl, by rw [hne 12 14 (by omega), hne 12 13 (by omega), if_neg (by rw [h14]; simp)]; exact hC⟩⟩;clear hdep hD hne h14 hC;have ec : a'.eval (.const (.int .i64 0)) = .int .i64 0 := rfl;generalize a'.eval = ρ at *;simp [execOp, go_sem, *]
   ·injection ho with ho; subst ho
    have e45 := hD.has 12 _ 45 rfl rfl (hdep ⟨12, .data⟩ (by simp) rfl);have e39 := hD.has 6 _ 39 rfl rfl (hdep ⟨6, .data⟩ (by simp) rfl);have hl13 := getD_false hk;rw [if_neg (by rw [hl13]; simp)] at hC;have x2 : X.cell? ⟨w.heap.size + 2, i, none⟩ = some (.int .u64 (so[i] : Nat)) := by rw [hC]; exact d2
    have x2f : X.frozen? ⟨w.heap.size + 2, i, none⟩ = false := by rw [hC]; exact d2f
    refine ⟨rfl, wpIn_skip' (w' := X.setCell ⟨w.heap.size + 2, i, none⟩ (.int .u64 qq)) (by intro c hc; cases hc) (by intro c hc; cases hc) ?_ ⟨_, rfl, rfl, by rw [hne 13 14 (by omega), if_neg (by rw [h14]; simp), if_pos (getD_now hk), hC]⟩⟩;clear hdep hD hne h14 hC;generalize a'.eval = ρ at *;simp [execOp, go_sem, *]
   ·injection ho with ho; subst ho
    have e44 := hD.has 11 _ 44 rfl rfl (hdep ⟨11, .data⟩ (by simp) rfl);have hl13 := hdep ⟨13, .chain⟩ (by simp) rfl;rw [if_pos hl13] at hC;refine ⟨rfl, wpIn_skip' (w' := X.setCell ⟨w.heap.size + 3, 0, none⟩ (.int .u64 rr)) (by intro c hc; cases hc) (by intro c hc; cases hc) ?_ ⟨_, rfl, rfl, by rw [if_pos (getD_now hk), hC]⟩⟩;clear hdep hD hne h14 hC;generalize a'.eval = ρ at *;simp [execOp, go_sem, *]
   ·exact absurd ho (by simp)
  ·intro listed a' X hall hD hC
   rw [if_pos (hall 14 (by simp))] at hC;have hdf := hD.defers;obtain ⟨tm, df⟩ := a';simp only at hdf;subst hdf;gi_wp2_with fail;have hA : Arr .u64 (W'.drew.setCell ⟨w.heap.size + 2, i, none⟩ (.int .u64 qq)) (w.heap.size + 2) 215 (so.set i ((sr * B9 + xs[i]?.getD 0) / b)) := by
    refine Arr.set ?_ i _ ?_
    ·rw [<- HW'.out]
     show Arr .u64 (W.setCell ⟨w.heap.size + 1 + 1 + 1, 0, none⟩ (.int .u64 q)) _ _ _;unfold Arr;rw [heap_setCell_other _ _ _ _ (by simp)];exact hI2
    ·rw [hqq, Int.tdiv_eq_ediv_of_nonneg b2.1, HQ.out, HRZ.out, <- HXZ.out, HBZ.out]
     unfold B9;simp
   have hR : ((sr * B9 + xs[i]?.getD 0) % b : Nat) = rr := by
    rw [hrr, Int.tmod_eq_emod_of_nonneg b2.1, HQ.out, HRZ.out, <- HXZ.out, HBZ.out];unfold B9;simp
   have hXW : X = ((W.setCell ⟨w.heap.size + 1 + 1 + 1, 0, none⟩ (.int .u64 q)).drew.setCell ⟨w.heap.size + 2, i, none⟩ (.int .u64 qq)).setCell ⟨w.heap.size + 3, 0, none⟩ (.int .u64 rr) := by rw [hC, <- HW'.out]
   have hBX : Below w.heap.size W X := by
    rw [hXW];have g1 : Below w.heap.size W (W.setCell ⟨w.heap.size + 1 + 1 + 1, 0, none⟩ (.int .u64 q)) := (Below.refl _ W).setCell (by simp; omega) _;have g2 : Below w.heap.size W (W.setCell ⟨w.heap.size + 1 + 1 + 1, 0, none⟩ (.int .u64 q)).drew := g1.trans ((below_drewN _ 1).mono (by have := hB.size; simp [World.setCell]; omega));exact (g2.setCell (by simp) _).setCell (by simp) _
   have hKX : KeepsOthers W X := by
    rw [hXW];exact (((KeepsOthers.setCell _ _ _).trans (KeepsOthers.drew _)).trans (KeepsOthers.setCell _ _ _)).trans (KeepsOthers.setCell _ _ _)
   have h4X : X.heap[w.heap.size + 4]? = W.heap[w.heap.size + 4]? := by
    rw [hXW, heap_setCell_other _ _ _ _ (by simp), heap_setCell_other _ _ _ _ (by simp)];exact heap_setCell_other _ _ _ _ (by simp)
   refine ⟨hKX, ⟨hBX, h4X⟩, ⟨?_, ⟨?_, ?_⟩, ?_, ?_, ?_, h4X.trans hI5⟩, hB.trans hBX⟩
   ·rw [hC, World.cell?_setCell_other _ _ _ _ (by simp), World.cell?_setCell_other _ _ _ _ (by simp)]; exact d0
   ·rw [hC, World.cell?_setCell_other _ _ _ _ (by simp), World.cell?_setCell_other _ _ _ _ (by simp)]; exact d1
   ·rw [hC, World.frozen?_setCell, World.frozen?_setCell]
    show W'.frozen? _ = false;rw [<- HW'.out, World.frozen?_setCell]; exact hI1f
   ·rw [HST.out, hC]
    unfold Arr;rw [heap_setCell_other _ _ _ _ (by simp)];exact hA
   ·rw [HST.out, hC]
    show _ = some (Value.int .u64 ((((sr * B9 + xs[i]?.getD 0) % b : Nat)) : Int));rw [hR];exact World.cell?_setCell_same' _ _ _ (by rw [World.cell?_setCell_other _ _ _ _ (by simp)]; show (W'.cell? _).isSome = true; rw [d3]; rfl)
   ·rw [hC, World.frozen?_setCell, World.frozen?_setCell]; exact d3f
 case done =>
  rintro D ys W hD hys ⟨⟨hI0, ⟨hI1, hI1f⟩, hI2, hI3, hI4, hI5⟩, hB⟩ hK;gi_wp2_with fail;rw [hys] at hI2 hI3;obtain ⟨hal1, hal2⟩ := HALL.out;obtain ⟨hil, hi9, hib⟩ := HINV.out (bwd xs.length xs.length);generalize foldD xs b (bwd xs.length xs.length) = s at *;obtain ⟨so, sr⟩ := s;simp only at *;have hRd := hI2.rd (by rw [hil]; unfold maxLen; omega);rw [hil] at hRd;obtain ⟨rz, hrz⟩ : ∃ rz : Int, rz = (sr : Int) := ⟨_, rfl⟩;simp only [<- hrz] at hI3;have HAL1 := Lib.hid hal1;have HAL2 := Lib.hid hal2;have HRZ := Lib.hid hrz;clear hal1 hal2 hrz;have hrc : (W.alloc (Obj.cells #[Value.int .u64 rz] 215)).drew.cell? ⟨W.heap.size, 0, none⟩ = some (.int .u64 rz) := by
   show (W.alloc (Obj.cells #[Value.int .u64 rz] 215)).cell? ⟨W.heap.size, 0, none⟩ = some (.int .u64 rz);rw [World.cell?_alloc_at _ _ _ _ rfl]; rfl
  have hWs : w.heap.size + 4 < W.heap.size := (Array.getElem?_eq_some_iff.1 hI5).1;have hW1 : w.heap.size + 1 < W.heap.size := by omega
  have hW3 : w.heap.size + 3 < W.heap.size := by omega
  refine wpIn_region_drawn (fun k v => match k with
   | 0 => v = .slice (some ⟨w.heap.size + 2, 0, none⟩) xs.length xs.length
   | 1 => Rd .u64 (W.alloc (.cells #[.int .u64 rz] 215)) v (lm B9 (a / b)) | 2 => v = .int .u64 rz | 3 => v = .slice (some ⟨W.heap.size, 0, none⟩) 1 1
   | 4 => Rd .u64 (W.alloc (.cells #[.int .u64 rz] 215)) v (lm B9 (a % b)) | 6 => Rd .u64 (W.alloc (.cells #[.int .u64 rz] 215)) v (lm B9 (a % b)) | _ => v = undef)
   (fun listed X => ∃ X0, X0 = (if listed.getD 3 false then W.drew.alloc (.cells #[.int .u64 rz] 215) else W.drew) /\ (if listed.getD 5 false then ∃ v, Rd .u64 (W.alloc (.cells #[.int .u64 rz] 215)) v (lm B9 (a / b)) /\ X = X0.setCell ⟨w.heap.size + 1, 0, none⟩ v else X = X0))
   (by kernel_rfl) (by kernel_rfl) ⟨_, rfl, by simp⟩ ?_ ?_
  ·intro listed a' X k o ho hk hdep hD hC
   have hne := getD_ne listed;have o4 := hD.old 4 (by intro j oj hj; rcases j with _|_|_|_|_|_|_|j <;> first | (injection hj with hj; subst hj; simp) | exact absurd hj (by simp));have o6 := hD.old 6 (by intro j oj hj; rcases j with _|_|_|_|_|_|_|j <;> first | (injection hj with hj; subst hj; simp) | exact absurd hj (by simp));replace o4 : a'.eval (.tmp 4) = .pointer (some ⟨w.heap.size + 1, 0, none⟩) := o4;replace o6 : a'.eval (.tmp 6) = .pointer (some ⟨w.heap.size + 3, 0, none⟩) := o6;obtain ⟨X0, hX0, hX⟩ := hC;have hcl := fun j oj (hj : _ = some oj) h e he hb => hD.closed j oj hj h e he hb;have hk5 : k < 5 -> listed.getD 5 false = false := fun hk5 => Bool.eq_false_iff.2 fun h => by
    have h4 := hD.closed 5 _ rfl h ⟨4, .chain⟩ (by simp) rfl;have h3 := hD.closed 4 _ rfl h4 ⟨3, .data⟩ (by simp) rfl;have h2 := hD.closed 3 _ rfl h3 ⟨2, .data⟩ (by simp) rfl;have h1 := hD.closed 5 _ rfl h ⟨1, .data⟩ (by simp) rfl;have h0 := hD.closed 5 _ rfl h ⟨0, .phase⟩ (by simp) rfl;have hkf := getD_false hk;rcases k with _|_|_|_|_|k
    ·rw [h0] at hkf; cases hkf
    ·rw [h1] at hkf; cases hkf
    ·rw [h2] at hkf; cases hkf
    ·rw [h3] at hkf; cases hkf
    ·rw [h4] at hkf; cases hkf
    ·omega
   have x1 : X0.cell? ⟨w.heap.size + 1, 0, none⟩ = some (.slice (some ⟨w.heap.size + 2, 0, none⟩) xs.length xs.length) := by
    rw [hX0]; split; exact cell_alloc_l _ hI1; exact hI1
   have x1f : X0.frozen? ⟨w.heap.size + 1, 0, none⟩ = false := by
    rw [hX0]; split; exact frozen_alloc_l _ hI1 hI1f; exact hI1f
   have x3 : X0.cell? ⟨w.heap.size + 3, 0, none⟩ = some (.int .u64 rz) := by
    rw [hX0]; split; exact cell_alloc_l _ hI3; exact hI3
   have xRd : Rd .u64 X0 (.slice (some ⟨w.heap.size + 2, 0, none⟩) xs.length xs.length) so := by
    rw [hX0]; split; exact hRd.alloc _; exact hRd
   have xTo : ∀ v l, Rd .u64 X0 v l -> Rd .u64 (W.alloc (.cells #[.int .u64 rz] 215)) v l := by
    intro v l; rw [hX0]; split; exact fun h => h; exact fun h => (show Rd .u64 W v l from h).alloc _
   rcases k with _|_|_|_|_|_|_|k
   ·injection ho with ho; subst ho
    rw [hk5 (by omega), if_neg (by simp)] at hX;subst hX;refine ⟨rfl, wpIn_value (w' := X) (by intro c hc; cases hc) (by intro c hc; cases hc) ?_ ⟨_, rfl, rfl, X, by rw [hne 0 3 (by omega)]; exact hX0, by rw [hne 0 5 (by omega), hk5 (by omega), if_neg (by simp)]⟩⟩;clear hdep hD hne hk5 hX0 hcl;generalize a'.eval = ρ at *;simp [execOp, go_sem, *]
   ·injection ho with ho; subst ho
    rw [hk5 (by omega), if_neg (by simp)] at hX;subst hX;have e46 := hD.has 0 _ 46 rfl rfl (hdep ⟨0, .data⟩ (by simp) rfl);simp only at e46;refine ⟨rfl, wpIn_enter (f := 158) (args := #[.slice (some ⟨w.heap.size + 2, 0, none⟩) xs.length xs.length]) (by intro c hc; cases hc) ?_ ?_⟩
    ·have ef : a'.eval (.func 158) = .func (.func 158) #[] #[] := rfl
     clear hdep hD hne hk5 hX0 hcl;generalize a'.eval = ρ at *;simp [execOp, go_sem, *]
    ·refine (trim_any _ _ _ xRd).mono ?_
     rintro e w9 ⟨v9, rfl, hv9, rfl⟩;exact ⟨v9, rfl, v9, HAL1.out ▸ xTo _ _ hv9, rfl, X, by rw [hne 1 3 (by omega)]; exact hX0, by rw [hne 1 5 (by omega), hk5 (by omega), if_neg (by simp)]⟩
   ·injection ho with ho; subst ho
    rw [hk5 (by omega), if_neg (by simp)] at hX;subst hX;refine ⟨rfl, wpIn_value (w' := X) (by intro c hc; cases hc) (by intro c hc; cases hc) ?_ ⟨_, rfl, rfl, X, by rw [hne 2 3 (by omega)]; exact hX0, by rw [hne 2 5 (by omega), hk5 (by omega), if_neg (by simp)]⟩⟩;clear hdep hD hne hk5 hX0 hcl;generalize a'.eval = ρ at *;simp [execOp, go_sem, *]
   ·injection ho with ho; subst ho
    rw [hk5 (by omega), if_neg (by simp)] at hX;subst hX;rw [getD_false hk, if_neg (by simp)] at hX0;have e48 := hD.has 2 _ 48 rfl rfl (hdep ⟨2, .data⟩ (by simp) rfl);simp only at e48;refine ⟨rfl, wpIn_value (w' := X.alloc (.cells #[.int .u64 rz] 215)) (v := .slice (some ⟨X.heap.size, 0, none⟩) 1 1) (by intro c hc; cases hc) (by intro c hc; cases hc) ?_ ⟨_, by rw [hX0]; rfl, rfl, X.alloc (.cells #[.int .u64 rz] 215), by rw [getD_now hk, if_pos rfl, hX0], by rw [hne 3 5 (by omega), hk5 (by omega), if_neg (by simp)]⟩⟩;clear hdep hD hne hk5 hX0 hcl;generalize a'.eval = ρ at *;simp [execOp, go_sem, *]
   ·injection ho with ho; subst ho
    rw [hk5 (by omega), if_neg (by simp)] at hX;subst hX;have h3 := hdep ⟨3, .data⟩ (by simp) rfl;rw [h3, if_pos rfl] at hX0;have e49 := hD.has 3 _ 49 rfl rfl h3;simp only at e49;refine ⟨rfl, wpIn_enter (f := 158) (args := #[.slice (some ⟨W.heap.size, 0, none⟩) 1 1]) (by intro c hc; cases hc) ?_ ?_⟩
    ·have ef : a'.eval (.func 158) = .func (.func 158) #[] #[] := rfl
     clear hdep hD hne hk5 hX0 hcl;generalize a'.eval = ρ at *;simp [execOp, go_sem, *]
    ·refine (trim_any _ _ [sr] (rd_one _ _ sr rz HRZ.out ?_)).mono ?_
     ·rw [hX0]; show (W.alloc (.cells #[.int .u64 rz] 215)).cell? _ = _; rw [World.cell?_alloc_at _ _ _ _ rfl]; rfl
     rintro e w9 ⟨v9, rfl, hv9, rfl⟩;exact ⟨v9, rfl, v9, HAL2.out ▸ xTo _ _ hv9, rfl, X, by rw [hne 4 3 (by omega), h3, if_pos rfl]; exact hX0, by rw [hne 4 5 (by omega), hk5 (by omega), if_neg (by simp)]⟩
   ·injection ho with ho; subst ho
    rw [getD_false hk, if_neg (by simp)] at hX;subst hX;have e47 := hD.has 1 _ 47 rfl rfl (hdep ⟨1, .data⟩ (by simp) rfl);simp only at e47;generalize hv47 : a'.eval (.tmp 47) = v47 at e47;have e47' := e47;obtain ⟨p9, c9, rfl, hc9, hm9, hr9⟩ := e47.open;refine ⟨rfl, wpIn_skip' (w' := X.setCell ⟨w.heap.size + 1, 0, none⟩ (.slice p9 (lm B9 (a / b)).length c9)) (by intro c hc; cases hc) (by intro c hc; cases hc) ?_ ⟨_, rfl, rfl, X, by rw [hne 5 3 (by omega)]; exact hX0, by rw [getD_now hk, if_pos rfl]; exact ⟨_, e47', rfl⟩⟩⟩;clear hdep hD hne hk5 hX0 hcl hr9 e47 e47';generalize a'.eval = ρ at *;simp [execOp, go_sem, *]
   ·injection ho with ho; subst ho
    have e50 := hD.has 4 _ 50 rfl rfl (hdep ⟨4, .data⟩ (by simp) rfl);refine ⟨rfl, wpIn_value (w' := X) (by intro c hc; cases hc) (by intro c hc; cases hc) (v := a'.eval (.tmp 50)) ?_ ⟨_, e50, rfl, X0, by rw [hne 6 3 (by omega)]; exact hX0, by rw [hne 6 5 (by omega)]; exact hX⟩⟩;rfl
   ·exact absurd ho (by simp)
  ·intro listed a' X hall hD hC
   have o4 := hD.old 4 (by intro j oj hj; rcases j with _|_|_|_|_|_|_|j <;> first | (injection hj with hj; subst hj; simp) | exact absurd hj (by simp));replace o4 : a'.eval (.tmp 4) = .pointer (some ⟨w.heap.size + 1, 0, none⟩) := o4;have e5 := hD.has 6 _ 5 rfl rfl (hall 6 (by simp));simp only at e5;have hdf : a'.defers = [{ target := .collected D, args := #[] }] := hD.defers;obtain ⟨X0, hX0, hX⟩ := hC;rw [hall 3 (by simp), if_pos rfl] at hX0;rw [hall 5 (by simp), if_pos rfl] at hX;obtain ⟨v, hv, hX⟩ := hX;clear hD hall;have hXD : X.heap[D]? = some (.deferred (some [])) := by
    have hDW : D < W.heap.size := (Array.getElem?_eq_some_iff.1 hK).1;rw [hX, hX0, heap_setCell_other _ _ _ _ (by simp at hD ⊢; omega)];exact (heap_old _ _ _ (by exact hDW)).trans hK
   have hBX : Below w.heap.size w X := by
    rw [hX, hX0];exact (((hB.trans ((below_drewN W 1).mono (by omega))).alloc (by simp; omega) _).setCell (by simp) _)
   have hXc : X.cell? ⟨w.heap.size + 1, 0, none⟩ = some v := by
    rw [hX];exact World.cell?_setCell_same' _ _ _ (by rw [hX0]; show ((W.alloc _).cell? _).isSome = true; rw [cell_alloc_l _ hI1]; rfl)
   have hXA : ∀ v' l, Rd .u64 (W.alloc (.cells #[.int .u64 rz] 215)) v' l -> Rd .u64 X v' l := by
    intro v' l h;rw [hX, hX0];exact RdC.set_other (w := W.drew.alloc (.cells #[.int .u64 rz] 215)) (RdC.drewN h 1) (c := .slice (some ⟨w.heap.size + 2, 0, none⟩) xs.length xs.length) (cell_alloc_l _ hI1) (by simp)
   have HXX := Lib.hid hX;clear hX;gi_wp2_with fail;show LeavesInM _ _ _ _ _ _ a'.defers _ _;rw [hdf];refine ⟨by simp, .inl ⟨_, _, rfl, run_takeDeferred hXD, ?_⟩⟩;have hne : w.heap.size + 1 ≠ D := by simp at hD; omega
   have hXc2 : (X.putObj D (Obj.deferred none)).cell? ⟨w.heap.size + 1, 0, none⟩ = some v := (World.cell?_of_block (World.putObj_heap_other hne)).trans hXc;generalize hr5 : a'.eval (.tmp 5) = v5 at e5;obtain ⟨p9, c9, rfl, hc9, hm9, hr9⟩ := hv.open;refine ⟨.tuple #[.slice p9 (lm B9 (a / b)).length c9, v5], ?_, _, rfl, ⟨_, _, rfl, rd_put (hXA _ _ hv) hXD rfl _, rd_put (hXA _ _ e5) hXD rfl _⟩, ?_⟩
   ·have t4 : a'.tmps[4]?.getD undef = .pointer (some ⟨w.heap.size + 1, 0, none⟩) := by rw [<- Array.getD_eq_getD_getElem?]; exact o4
    have t5 : a'.tmps[5]?.getD undef = v5 := by rw [<- Array.getD_eq_getD_getElem?]; exact hr5
    simp [results, Tryz.results153, go_sem, hXc2, t4, t5]
   ·exact hBX.trans (belowK_b (w := w) (Nat.le_refl _) X D _ _ (by simp at hD; omega) hXD rfl rfl)
 case stop =>
  rintro D c pre W _ _ h _;exact h.elim
theorem divide_one (w : World) (va vb : Value) (a b : Nat) (ha : Rd .u64 w va (lm B9 a)) (hb : Rd .u64 w vb (lm B9 b)) (hab : b <= a) (hb0 : 0 < b) (hb9 : b < B9) (hlen : (lm B9 a).length <= 1000000) :
 Calls Tryz.prog 153 #[va, vb] w (Ret (QR (a / b) (a % b)) w) :=
 callsIn_wide.1 (divide_one_in 6 (Nat.le_refl _) w va vb a b ha hb hab hb0 hb9 hlen)
end Go.Proofs.YtgdpoankaojklaaGreatDoor
namespace Go.Proofs.YtgdpoankaojklaaGreatDoor
open Go.RowKit
theorem Tryz.info_i64 : (Tryz.prog.info? 3).map (fun i => (i.zero, i.size, i.bytes)) = some (some (.int .i64 0), 1, 8) := by kernel_rfl
theorem addr_add (b o j : Nat) : (⟨b, o, none⟩ : Addr).add j = ⟨b, o + j, none⟩ := by
 unfold Addr.add;split
 ·rename_i h; subst h; rfl
 ·rfl
open Go.Shelf
theorem foldD_zero (xs : List Nat) (b k j : Nat) (hj : j < xs.length - k) : (foldD xs b (bwd xs.length k)).1[j]?.getD 0 = 0 := by
 induction k with
 | zero => simp [bwd, foldD, List.getElem?_replicate]; split <;> rfl
 | succ k ih =>
   rw [bwd_succ, foldD_snoc];unfold stepD;simp only;rw [List.getElem?_set_ne (by omega)];exact ih (by omega)
theorem foldD_all2 {a b : Nat} (hb : 0 < b) :
 dropZ (foldD (lm B9 a) b (bwd (lm B9 a).length (lm B9 a).length)).1 = lm B9 (a / b) /\ (foldD (lm B9 a) b (bwd (lm B9 a).length (lm B9 a).length)).2 = a % b := by
 have hx := lm_lt B9 a two_le_B9;obtain ⟨h1, h2, h3⟩ := foldD_inv hx hb (bwd (lm B9 a).length (lm B9 a).length);have h4 := foldD_val hx hb (lm B9 a).length (Nat.le_refl _);rw [Nat.sub_self, List.drop_zero, List.drop_zero, lval_lm B9 a two_le_B9] at h4;generalize foldD (lm B9 a) b (bwd (lm B9 a).length (lm B9 a).length) = s at *;have e1 : a / b = lval B9 s.1 := by rw [h4, Nat.mul_add_div hb, Nat.div_eq_of_lt h3, Nat.add_zero]
 have e2 : a % b = s.2 := by rw [h4, Nat.mul_add_mod_self_left, Nat.mod_eq_of_lt h3]
 rw [e1, e2];exact ⟨dropZ_eq B9 two_le_B9 _ h2, rfl⟩
theorem guess_ge {B b r bt rt m : Nat} (hb : bt * B ^ m <= b) (hr : r < (rt + 1) * B ^ m) (hbt : 0 < bt) : r / b <= rt / bt := by
 have hP : 0 < B ^ m := by
  rcases Nat.eq_zero_or_pos (B ^ m) with h | h
  ·rw [h] at hr; simp at hr
  ·exact h
 rw [Nat.le_div_iff_mul_le hbt];have h1 : r / b * b <= r := Nat.div_mul_le_self r b;have h2 : r / b * (bt * B ^ m) <= r / b * b := Nat.mul_le_mul_left _ hb;have h3 : r / b * bt * B ^ m < (rt + 1) * B ^ m := by rw [Nat.mul_assoc]; omega
 have := Nat.lt_of_mul_lt_mul_right h3;omega
theorem lm_top (n : Nat) (k : Nat) (h : (lm B9 n).length = k + 1) (hk : k < (lm B9 n).length) : (lm B9 n)[k] * B9 ^ k <= n /\ n < ((lm B9 n)[k] + 1) * B9 ^ k /\ 0 < (lm B9 n)[k] := by
 have e : lm B9 n = (lm B9 n).take k ++ [(lm B9 n)[k]] := by
  conv => lhs; rw [<- List.take_append_drop k (lm B9 n)]
  rw [List.drop_eq_getElem_cons hk, List.drop_eq_nil_of_le (by omega)]
 have hv := lval_lm B9 n two_le_B9;have hlt : lval B9 ((lm B9 n).take k) < B9 ^ k := by
  have := lval_lt B9 ((lm B9 n).take k) (fun x hx => lm_lt B9 n two_le_B9 x (List.mem_of_mem_take hx));rwa [List.length_take, Nat.min_eq_left (by omega)] at this
 have h2 : lval B9 (lm B9 n) = lval B9 ((lm B9 n).take k) + (lm B9 n)[k] * B9 ^ k := by
  conv => lhs; rw [e]
  rw [lval_snoc, List.length_take, Nat.min_eq_left (by omega)]
 rw [hv] at h2;refine ⟨by omega, by rw [Nat.add_mul]; omega, ?_⟩;rcases Nat.eq_zero_or_pos (lm B9 n)[k] with h0 | h0
 ·rw [h0] at e; exact absurd e (lm_last B9 n two_le_B9 _)
 ·exact h0
theorem lm_drop_lt (n k : Nat) : n < (lval B9 ((lm B9 n).drop k) + 1) * B9 ^ k := by
 have hv := lval_lm B9 n two_le_B9;rcases Nat.lt_or_ge k (lm B9 n).length with hk | hk
 ·have hlt : lval B9 ((lm B9 n).take k) < B9 ^ k := by
   have := lval_lt B9 ((lm B9 n).take k) (fun x hx => lm_lt B9 n two_le_B9 x (List.mem_of_mem_take hx));rwa [List.length_take, Nat.min_eq_left (by omega)] at this
  have h2 : lval B9 (lm B9 n) = lval B9 ((lm B9 n).take k) + B9 ^ k * lval B9 ((lm B9 n).drop k) := by
   conv => lhs; rw [<- List.take_append_drop k (lm B9 n)]
   rw [lval_append, List.length_take, Nat.min_eq_left (by omega)]
  rw [hv] at h2;rw [Nat.add_mul, Nat.mul_comm (lval B9 _)];omega
 ·rw [List.drop_eq_nil_of_le hk]
  have := lm_len_lt B9 n two_le_B9;have h3 : B9 ^ (lm B9 n).length <= B9 ^ k := Nat.pow_le_pow_right (by decide) hk;simp [lval]; omega
theorem drop_two {l : List Nat} {k : Nat} (h : l.length = k + 2) : l.drop k = [l[k]'(by omega), l[k + 1]'(by omega)] := by
 rw [List.drop_eq_getElem_cons (by omega), List.drop_eq_getElem_cons (by omega), List.drop_eq_nil_of_le (by omega)]
theorem drop_one' {l : List Nat} {k : Nat} (h : l.length = k + 1) : l.drop k = [l[k]'(by omega)] := by
 rw [List.drop_eq_getElem_cons (by omega), List.drop_eq_nil_of_le (by omega)]
theorem Arr.below {k : IntKind} {w w' : World} {g E : Nat} {o : List Nat} (h : Arr k w g E o) (hb : Below w.heap.size w w') : Arr k w' g E o :=
 (hb.block g h.lt).trans h
theorem RdC.set_fresh {sz g i : Nat} {w : World} {v : Value} {n : Nat} {cs : List Value} (h : RdC sz w v n cs) (hf : FreshV (g + 1) v) (u : Value) : RdC sz (w.setCell ⟨g, i, none⟩ u) v n cs := by
 obtain ⟨p, c, hv, h1, h2, h3, h4⟩ := h;refine ⟨p, c, hv, h1, h2, h3, fun hne => ?_⟩;obtain ⟨b, off, hp, hc⟩ := h4 hne;refine ⟨b, off, hp, fun j x hx => ?_⟩;have hb : g + 1 <= b := hf ⟨b, off, none⟩ n c (by rw [hv, hp]);rw [World.cell?_setCell_other _ _ _ _ (by simp only [ne_eq, Addr.mk.injEq, not_and]; omega)];exact hc j x hx
theorem set_zero (q : List Nat) (i : Nat) (h : q[i]?.getD 0 = 0) : q.set i 0 = q := by
 apply List.ext_getElem?;intro j;rw [List.getElem?_set];split
 ·rename_i e; subst e
  split
  ·rename_i hl; rw [List.getElem?_eq_getElem hl] at *; simp only [Option.getD_some] at h; rw [h]
  ·rename_i hl; rw [List.getElem?_eq_none (by omega)]
 ·rfl
theorem divide_small (w : World) (va vb : Value) (a b : Nat) (ha : Rd .u64 w va (lm B9 a)) (hb : Rd .u64 w vb [b]) (hb0 : 0 < b) (hb9 : b < B9) (hlen : (lm B9 a).length <= 1000000) :
 Calls Tryz.prog 153 #[va, vb] w (Ret (QR (a / b) (a % b)) w) := by
 have hlb : lm B9 b = [b] := by
  have := (dropZ_eq B9 two_le_B9 [b] (by intro y hy; simp at hy; omega)).symm;simp only [lval, Nat.mul_zero, Nat.add_zero] at this;rw [this, <- List.nil_append [b], dropZ_snoc_pos _ _ (by omega)]
 rw [<- hlb] at hb;rcases Nat.lt_or_ge a b with h | h
 ·exact divide_less w va vb a b ha hb h
 ·exact divide_one w va vb a b ha hb h hb0 hb9 hlen
theorem divide_more (w : World) (va vb : Value) (a b : Nat) (ha : Rd .u64 w va (lm B9 a)) (hb : Rd .u64 w vb (lm B9 b)) (hab : b <= a) (hb9 : B9 <= b) (hlen : (lm B9 a).length <= 900000) :
 Calls Tryz.prog 153 #[va, vb] w (Ret (QR (a / b) (a % b)) w) := by
 obtain ⟨cz, hcz⟩ : ∃ cz, cz = cmpN a b := ⟨_, rfl⟩;have hcz0 : ¬ cz < 0 := by rw [hcz]; unfold cmpN; split; omega; split <;> omega
 have hlb : 2 <= (lm B9 b).length := by
  rcases Nat.lt_or_ge (lm B9 b).length 2 with h | h
  ·have := lm_len_lt B9 b two_le_B9
   have h2 : B9 ^ (lm B9 b).length <= B9 ^ 1 := Nat.pow_le_pow_right (by decide) (by omega);rw [Nat.pow_one] at h2;omega
  ·exact h
 have hlb2 : (lm B9 b).length <= (lm B9 a).length := by
  rcases Nat.lt_or_ge (lm B9 a).length (lm B9 b).length with h | h
  ·have := lm_lt_of_len B9 a b two_le_B9 h
   omega
  ·exact h
 obtain ⟨p, c, rfl, hc, hm, hr⟩ := ha.open;obtain ⟨q, d, rfl, hd, hm2, hs⟩ := hb.open;have hne : lm B9 b ≠ [] := List.ne_nil_of_length_pos (by omega);obtain ⟨bb, ob, rfl, hbl, hbc⟩ := hs hne;have htop := hbc ((lm B9 b).length - 1) (by omega);have htl : (lm B9 b)[(lm B9 b).length - 1] < B9 := lm_lt B9 b two_le_B9 _ (List.getElem_mem _);obtain ⟨tz, htz⟩ : ∃ tz : Int, tz = ((lm B9 b)[(lm B9 b).length - 1] : Nat) := ⟨_, rfl⟩;rw [<- htz] at htop;have htp : 0 < (lm B9 b)[(lm B9 b).length - 1] := by
  rcases Nat.eq_zero_or_pos (lm B9 b)[(lm B9 b).length - 1] with h0 | h0
  ·refine absurd ?_ (lm_last B9 b two_le_B9 ((lm B9 b).take ((lm B9 b).length - 1)))
   conv => lhs; rw [<- List.take_append_drop ((lm B9 b).length - 1) (lm B9 b)]
   rw [List.drop_eq_getElem_cons (by omega), h0, List.drop_eq_nil_of_le (by omega)]
  ·exact h0
 have hB9 : B9 = 1000000000 := rfl;have htz0 : 1 <= tz /\ tz < 1000000000 := by omega
 obtain ⟨f, hf⟩ : ∃ f : Nat, f = B9 / ((lm B9 b)[(lm B9 b).length - 1] + 1) := ⟨_, rfl⟩;obtain ⟨fz, hfz⟩ : ∃ fz : Int, fz = 1000000000 / (tz + 1) := ⟨_, rfl⟩;have hff : fz = (f : Int) := by rw [hfz, hf, htz]; push_cast; rfl
 have hf1 : 1 <= f /\ f <= 500000000 := by
  rw [hf];refine ⟨Nat.div_pos (by omega) (by omega), ?_⟩;exact Nat.le_trans (Nat.div_le_div_left (show 2 <= _ by omega) (by decide)) (by decide)
 have hf0 : 1 <= fz /\ fz <= 500000000 := by omega
 have hf9 : f < B9 := by omega
 have HF := Lib.hid hff;have HTZ := Lib.hid htz;have HCZ := Lib.hid hcz;have HA := Lib.hid ha;have HB := Lib.hid hb;clear hB9 htz hcz hs hbc ha hb;go_enter Tryz.func153, Tryz.ntmps153;go_wp2_with fail;refine (order_any _ _ _ a b ((HA.out.alloc _).alloc _) ((HB.out.alloc _).alloc _)).mono ?_;rintro e w1 ⟨_, rfl, rfl, j, rfl⟩;rw [<- HCZ.out];go_wp2_with fail;rw [<- hfz];clear hff hf hfz;generalize hW : ((w.alloc (Obj.cells #[Value.slice (some ⟨bb, ob, none⟩) (lm B9 b).length d] 180)).alloc (Obj.cells #[Value.slice none 0 0] 180)).drewN j = W;have hWs : W.heap.size = w.heap.size + 2 := by rw [<- hW]; simp
 have hWb : Below w.heap.size w W := by
  rw [<- hW];exact ((((Below.refl _ w).alloc (Nat.le_refl _) _).alloc (by simp) _).trans (below_drewN _ j |>.mono (by simp; omega)))
 have w0 : W.cell? ⟨w.heap.size, 0, none⟩ = some (.slice (some ⟨bb, ob, none⟩) (lm B9 b).length d) := by
  rw [<- hW, World.cell?_drewN, World.cell?_alloc_past _ _ _ (by simp), World.cell?_alloc_at _ _ _ _ rfl]; rfl
 have w0f : W.frozen? ⟨w.heap.size, 0, none⟩ = false := by
  rw [<- hW]; exact frozen_alloc_l (v := .slice (some ⟨bb, ob, none⟩) (lm B9 b).length d) _ (by rw [World.cell?_alloc_at _ _ _ _ rfl]; rfl) (World.frozen?_alloc_at _ _ _ _ rfl)
 have w1 : W.cell? ⟨w.heap.size + 1, 0, none⟩ = some (.slice none 0 0) := by
  rw [<- hW, World.cell?_drewN, World.cell?_alloc_at _ _ _ _ (by simp)]; rfl
 have w1f : W.frozen? ⟨w.heap.size + 1, 0, none⟩ = false := by
  rw [<- hW]; exact World.frozen?_alloc_at _ _ _ _ (by simp)
 have wa := RdC.below HA.out hWb;have wb := RdC.below HB.out hWb;have HWA := Lib.hid wa;have HWB := Lib.hid wb;clear hW wa wb;go_cut [0] (fun s0 wx => Rd .u64 wx s0 (lm B9 (a * f)) /\ (∃ v, wx.cell? ⟨w.heap.size, 0, none⟩ = some v /\ Rd .u64 wx v (lm B9 (b * f))) /\ wx.frozen? ⟨w.heap.size, 0, none⟩ = false
  /\ wx.cell? ⟨w.heap.size + 1, 0, none⟩ = some (.slice none 0 0) /\ wx.frozen? ⟨w.heap.size + 1, 0, none⟩ = false /\ Below w.heap.size w wx /\ w.heap.size + 2 <= wx.heap.size)
 case first =>
  have HWAd : Hid (Rd .u64 W.drew (.slice p (lm B9 a).length c) (lm B9 a)) := HWA.out;have HWBd : Hid (Rd .u64 W.drew (.slice (some ⟨bb, ob, none⟩) (lm B9 b).length d) (lm B9 b)) := HWB.out
  go_region_with (first
   | (go_at_call 195; refine (small_any _ _ a f fz HF.out HWAd.out (by omega) hf9).mono ?_; rintro e w9 ⟨v9, rfl, hv9, hb9'⟩
      have y0 := zcq hb9' (by show w.heap.size < W.heap.size; omega) w0;have y0f := (hb9'.frozen (p := ⟨w.heap.size, 0, none⟩) (by show w.heap.size < W.heap.size; omega)).trans w0f;obtain ⟨p9, c9, rfl, hc9, hm9, hr9⟩ := hv9.open)
   | (go_at_call 195; refine (small_any _ _ b f fz HF.out (RdC.below HWBd.out hb9') (by omega) hf9).mono ?_; rintro e w10 ⟨v10, rfl, hv10, hb10⟩
      have hsz9 := hb9'.size;have z0 := zcq hb10 (by show w.heap.size < w9.heap.size; have : W.drew.heap.size = W.heap.size := rfl; omega) y0;have z0f := (hb10.frozen (p := ⟨w.heap.size, 0, none⟩) (by show w.heap.size < w9.heap.size; have : W.drew.heap.size = W.heap.size := rfl; omega)).trans y0f;obtain ⟨p10, c10, rfl, hc10, hm10, hr10⟩ := hv10.open))
  all_goals
   have hszd : W.drew.heap.size = W.heap.size := rfl;have q1 := (hb10.cell (p := ⟨w.heap.size + 1, 0, none⟩) (by show w.heap.size + 1 < w9.heap.size; omega)).trans ((zcq hb9' (by show w.heap.size + 1 < W.heap.size; omega) w1 :));have q1f := (hb10.frozen (p := ⟨w.heap.size + 1, 0, none⟩) (by show w.heap.size + 1 < w9.heap.size; omega)).trans ((hb9'.frozen (p := ⟨w.heap.size + 1, 0, none⟩) (by show w.heap.size + 1 < W.heap.size; omega)).trans w1f);have hsz10 := hb10.size;have hB : Below w.heap.size w (w10.setCell ⟨w.heap.size, 0, none⟩ (.slice p10 (lm B9 (b * f)).length c10)) :=
    ((hWb.trans (((below_drewN W 1).mono (show w.heap.size <= W.heap.size by omega)).trans ((hb9'.trans (hb10.mono hsz9)).mono (show w.heap.size <= W.heap.size by omega)))).setCell (Nat.le_refl _) _)
   go_wp2_with fail;go_meet;refine ⟨RdC.set_other (RdC.below hv9 hb10) z0 (by simp), ⟨_, World.cell?_setCell_same' _ _ _ (by rw [z0]; rfl), RdC.set_other hv10 z0 (by simp)⟩, ?_, ?_, ?_, hB, ?_⟩
   ·rw [World.frozen?_setCell]; exact z0f
   ·rw [World.cell?_setCell_other _ _ _ _ (by simp), q1]
   ·rw [World.frozen?_setCell]; exact q1f
   ·show w.heap.size + 2 <= (w10.setCell _ _).heap.size
    simp [World.setCell]; omega
 case rest =>
  obtain ⟨hs0, ⟨vb, hvb, hrb⟩, hvbf, hc1, hc1f, hbw, hsz⟩ := hcut;clear hr htop hWb w0 w0f w1 w1f;have HVBR := Lib.hid hrb;have HS0 := Lib.hid hs0;obtain ⟨pa, ca, rfl, hca, hma, hra⟩ := hs0.open;obtain ⟨pb, cb, rfl, hcb, hmb, hrb'⟩ := hrb.open;clear hs0 hrb;have hf1' : 0 < f := hf1.1;have hbf : B9 <= b * f := Nat.le_trans hb9 (Nat.le_mul_of_pos_right b hf1');have habf : b * f <= a * f := Nat.mul_le_mul_right f hab;have hB1 : (1 : Nat) < B9 := by decide
  have hlxs : (lm B9 (a * f)).length <= 900001 := by
   refine Nat.le_trans (lm_len_le B9 (a * f) ((lm B9 a).length + 1) two_le_B9 ?_) (by omega);have h1 := lm_len_lt B9 a two_le_B9;rw [Nat.pow_succ];exact Nat.mul_lt_mul_of_lt_of_le h1 (Nat.le_of_lt hf9) (by decide)
  have hlys : 2 <= (lm B9 (b * f)).length := by
   rcases Nat.lt_or_ge (lm B9 (b * f)).length 2 with h | h
   ·have := lm_len_lt B9 (b * f) two_le_B9
    have h2 : B9 ^ (lm B9 (b * f)).length <= B9 ^ 1 := Nat.pow_le_pow_right (by decide) (by omega);rw [Nat.pow_one] at h2;omega
   ·exact h
  have hlyx : (lm B9 (b * f)).length <= (lm B9 (a * f)).length := by
   rcases Nat.lt_or_ge (lm B9 (a * f)).length (lm B9 (b * f)).length with h | h
   ·have := lm_lt_of_len B9 (a * f) (b * f) two_le_B9 h
    omega
   ·exact h
  have hbf0 : 0 < b * f := by omega
  have HDIV : Hid (a * f / (b * f) = a / b /\ a * f % (b * f) = a % b * f) := ⟨Nat.mul_div_mul_right a b hf1', Nat.mul_mod_mul_right f a b⟩;have HALL := Lib.hid (foldD_all2 (a := a * f) hbf0);have HINV := Lib.hid (fun pre => foldD_inv (lm_lt B9 (a * f) two_le_B9) hbf0 pre);have HZ := Lib.hid (foldD_zero (lm B9 (a * f)) (b * f));have HQL : Hid (∀ k q r, (q, r) = foldD (lm B9 (a * f)) (b * f) (bwd (lm B9 (a * f)).length k) -> q.length = (lm B9 (a * f)).length) := by
   intro k q r e;have := (HINV.out (bwd (lm B9 (a * f)).length k)).1;rw [<- e] at this;exact this
  have HLT := Lib.hid (lm_lt B9 (a * f) two_le_B9);obtain ⟨ky, hky⟩ : ∃ ky, (lm B9 (b * f)).length = ky + 1 := ⟨(lm B9 (b * f)).length - 1, by omega⟩;have hkyl : ky < (lm B9 (b * f)).length := by omega
  have htopf := lm_top (b * f) ky hky hkyl;have hmk := run_make_u64 (lm B9 (a * f)).length (by omega) wc;obtain ⟨bY, oY, rfl, hblY, hcY⟩ := hrb' (List.ne_nil_of_length_pos (by omega));have hcTop := hcY ky hkyl;have hty : (lm B9 (b * f))[ky] < B9 := lm_lt B9 (b * f) two_le_B9 _ (List.getElem_mem _);obtain ⟨ty, hty0⟩ : ∃ ty : Int, ty = ((lm B9 (b * f))[ky] : Nat) := ⟨_, rfl⟩;rw [<- hty0] at hcTop;have hty1 : 1 <= ty /\ ty < 1000000000 := by
   have := htopf.2.2;have hB9 : B9 = 1000000000 := rfl;omega
  have HTY := Lib.hid hty0;have HTOP := Lib.hid htopf;clear hrb' hcY hty hty0 htopf;have y1 : (wc.alloc (.cells (zeros (lm B9 (a * f)).length) 215)).cell? ⟨w.heap.size + 1, 0, none⟩ = some (.slice none 0 0) := cell_alloc_l _ hc1;have y1f : (wc.alloc (.cells (zeros (lm B9 (a * f)).length) 215)).frozen? ⟨w.heap.size + 1, 0, none⟩ = false := frozen_alloc_l _ hc1 hc1f;have y2 : (wc.alloc (.cells (zeros (lm B9 (a * f)).length) 215)).cell? ⟨w.heap.size, 0, none⟩ = some (.slice (some ⟨bY, oY, none⟩) (lm B9 (b * f)).length cb) := cell_alloc_l _ hvb;have y3 : ((wc.alloc (.cells (zeros (lm B9 (a * f)).length) 215)).setCell ⟨w.heap.size + 1, 0, none⟩ (.slice (some ⟨wc.heap.size, 0, none⟩) (lm B9 (a * f)).length (lm B9 (a * f)).length)).cell? ⟨bY, oY + ky, none⟩ = some (.int .u64 ty) := by
   rw [World.cell?_setCell_other _ _ _ _ (fun e => by rw [<- e, hc1] at hcTop; cases hcTop)];exact cell_alloc_l _ hcTop
  go_wp2_with fail;generalize hW2 : (wc.alloc (.cells (zeros (lm B9 (a * f)).length) 215)).setCell ⟨w.heap.size + 1, 0, none⟩ (.slice (some ⟨wc.heap.size, 0, none⟩) (lm B9 (a * f)).length (lm B9 (a * f)).length) = W2 at *;have z0 : W2.cell? ⟨w.heap.size, 0, none⟩ = some (.slice (some ⟨bY, oY, none⟩) (lm B9 (b * f)).length cb) := by
   rw [<- hW2, World.cell?_setCell_other _ _ _ _ (by simp)]; exact y2
  have z1 : W2.cell? ⟨w.heap.size + 1, 0, none⟩ = some (.slice (some ⟨wc.heap.size, 0, none⟩) (lm B9 (a * f)).length (lm B9 (a * f)).length) := by
   rw [<- hW2]; exact World.cell?_setCell_same' _ _ _ (by rw [y1]; rfl)
  have z1f : W2.frozen? ⟨w.heap.size + 1, 0, none⟩ = false := by rw [<- hW2, World.frozen?_setCell]; exact y1f
  have zA : Arr .u64 W2 wc.heap.size 215 (List.replicate (lm B9 (a * f)).length 0) := by
   rw [<- hW2];unfold Arr;rw [heap_setCell_other _ _ _ _ (by simp; omega)];exact heap_alloc_new _ _
  have zX : Rd .u64 W2 (.slice pa (lm B9 (a * f)).length ca) (lm B9 (a * f)) := by
   rw [<- hW2]; exact RdC.set_other (RdC.alloc HS0.out _) y1 (by simp)
  have zY : Rd .u64 W2 (.slice (some ⟨bY, oY, none⟩) (lm B9 (b * f)).length cb) (lm B9 (b * f)) := by
   rw [<- hW2]; exact RdC.set_other (RdC.alloc HVBR.out _) y1 (by simp)
  have zB : Below w.heap.size w W2 := by
   rw [<- hW2]; exact (hbw.alloc (by omega) _).setCell (by simp) _
  have zs : W2.heap.size = wc.heap.size + 1 := by rw [<- hW2]; simp [World.setCell]
  have oX : OldV wc.heap.size (.slice pa (lm B9 (a * f)).length ca) := RdC.old HS0.out (by intro e; have e2 := congrArg List.length e; rw [List.length_map] at e2; simp only [List.length_nil] at e2; omega);have oY' : OldV wc.heap.size (.slice (some ⟨bY, oY, none⟩) (lm B9 (b * f)).length cb) := RdC.old HVBR.out (by intro e; have e2 := congrArg List.length e; rw [List.length_map] at e2; simp only [List.length_nil] at e2; omega);generalize hg : wc.heap.size = g at *;have HX := Lib.hid zX;have HY := Lib.hid zY;have HOX := Lib.hid oX;have HOY := Lib.hid oY';clear hW2 y1 y1f y2 y3 hvb hvbf hc1 hc1f hcTop hmk zX zY oX oY' HS0 HVBR HWA HWB;have HKY := Lib.hid hky;clear hky;go_loopw [5, 11] (fun t5 t11 wr => ∃ (k : Nat) (q : List Nat) (r : Nat) (iz : Int), k <= (lm B9 (a * f)).length /\ t11 = .int .i64 iz /\ Hid (iz = ((lm B9 (a * f)).length : Int) - 1 - k) /\ Hid ((q, r) = foldD (lm B9 (a * f)) (b * f) (bwd (lm B9 (a * f)).length k))
   /\ Rd .u64 wr t5 (lm B9 r) /\ FreshV (g + 1) t5 /\ Arr .u64 wr g 215 q /\ Below g W2 wr /\ g + 1 <= wr.heap.size) (fun _ t11 _ => (intOf t11 + 1).toNat)
  case atStart =>
   refine ⟨0, _, 0, _, Nat.zero_le _, rfl, ?_, rfl, by rw [lm_zero]; exact RdC.nil0 _ _, (by intro a l c e; cases e), zA, Below.refl _ _, by omega⟩;unfold Hid; omega
  case round =>
   obtain ⟨k, q, r, iz, hk, rfl, hiz, HFD, hr5, hf5, harr, hB2, hwr⟩ := hrel;have hrB : r < b * f := by
    have := (HINV.out (bwd (lm B9 (a * f)).length k)).2.2;rw [<- HFD.out] at this;exact this
   have hrl : (lm B9 r).length <= (lm B9 (b * f)).length := lm_len_le B9 r _ two_le_B9 (Nat.lt_trans hrB (lm_len_lt B9 (b * f) two_le_B9));have hiz1 : iz < 1000000 := by have := hiz.out; omega
   obtain ⟨p5, c5, rfl, hc5, hm5, hr5'⟩ := hr5.open;have HR5 := Lib.hid hr5;clear hr5;rcases (by omega : iz < 0 \/ 0 <= iz) with hneg | hge
   ·have hkn : k = (lm B9 (a * f)).length := by have := hiz.out; omega
    have HQR : Hid (dropZ q = lm B9 (a / b) /\ r / f = a % b) := by
     obtain ⟨e1, e2⟩ := HALL.out;have e3 := HFD.out;rw [hkn] at e3;rw [<- e3] at e1 e2;simp only at e1 e2;rw [HDIV.out.1] at e1;rw [HDIV.out.2] at e2;exact ⟨e1, by rw [e2, Nat.mul_div_cancel _ hf1']⟩
    have hone : Rd .u64 (wr.alloc (.cells #[.int .u64 fz] 215)) (.slice (some ⟨wr.heap.size, 0, none⟩) 1 1) [f] :=
     rd_one _ _ f fz HF.out (by rw [World.cell?_alloc_at _ _ _ _ rfl]; rfl)
    go_wp2_with fail;refine (divide_small _ _ _ r f (RdC.alloc HR5.out _) hone hf1' hf9 (by omega)).mono ?_;rintro e w5 ⟨_, rfl, ⟨vq, vr, rfl, hq5, hr6⟩, hb5⟩;rw [HQR.out.2] at hq5;obtain ⟨p6, c6, rfl, hc6, hm6, hr7⟩ := hq5.open;have HQ5 := Lib.hid hq5;clear hq5 hr7 hr6;have hszA : (wr.alloc (.cells #[.int .u64 fz] 215)).heap.size = wr.heap.size + 1 := by simp
    have v1 : w5.cell? ⟨w.heap.size + 1, 0, none⟩ = some (.slice (some ⟨g, 0, none⟩) (lm B9 (a * f)).length (lm B9 (a * f)).length) :=
     (hb5.cell (p := ⟨w.heap.size + 1, 0, none⟩) (by rw [hszA]; show w.heap.size + 1 < _; omega)).trans (cell_alloc_l _ ((zcq hB2 (show w.heap.size + 1 < g by omega) z1 :)))
    have v1f : w5.frozen? ⟨w.heap.size + 1, 0, none⟩ = false :=
     (hb5.frozen (p := ⟨w.heap.size + 1, 0, none⟩) (by rw [hszA]; show w.heap.size + 1 < _; omega)).trans (frozen_alloc_l _ ((zcq hB2 (show w.heap.size + 1 < g by omega) z1 :)) ((hB2.frozen (p := ⟨w.heap.size + 1, 0, none⟩) (show w.heap.size + 1 < g by omega)).trans z1f))
    have hql : q.length = (lm B9 (a * f)).length := by
     have := (HINV.out (bwd (lm B9 (a * f)).length k)).1;rw [<- HFD.out] at this;exact this
    have hRq : Rd .u64 w5 (.slice (some ⟨g, 0, none⟩) (lm B9 (a * f)).length (lm B9 (a * f)).length) q := by
     have h1 := harr.rd (by rw [hql]; unfold maxLen; omega);rw [hql] at h1;exact RdC.below (RdC.alloc h1 _) hb5
    have HRQ := Lib.hid hRq;clear hRq;go_wp2_with (first | (go_at_call 158; refine (trim_any _ _ _ HRQ.out).mono ?_; rintro e w6 ⟨v6, rfl, hv6, rfl⟩; obtain ⟨p7, c7, rfl, hc7, hm7, hr7⟩ := hv6.open; clear hr7));rw [HQR.out.1] at *;have hcell : (w5.setCell ⟨w.heap.size + 1, 0, none⟩ (.slice p7 (lm B9 (a / b)).length c7)).cell? ⟨w.heap.size + 1, 0, none⟩ = some (.slice p7 (lm B9 (a / b)).length c7) := World.cell?_setCell_same' _ _ _ (by rw [v1]; rfl);refine bodyPost_ret (v := .tuple #[.slice p7 (lm B9 (a / b)).length c7, .slice p6 (lm B9 (a % b)).length c6]) (by simp [results, Tryz.results153, go_sem, hcell]) rfl ?_;refine ⟨_, rfl, ⟨_, _, rfl, RdC.set_other hv6 v1 (by simp), RdC.set_other HQ5.out v1 (by simp)⟩, ?_⟩;exact ((zB.trans (hB2.mono (show w.heap.size <= g by omega))).trans ((((Below.refl _ wr).alloc (Nat.le_refl _) _).trans (hb5.mono (by rw [hszA]; omega))).mono (by have := hB2.size; omega))).setCell (by simp) _
   ·obtain ⟨i, hi⟩ : ∃ i : Nat, (i : Int) = iz := ⟨iz.toNat, by omega⟩
    subst hi;have hil : i < (lm B9 (a * f)).length := by have := hiz.out; omega
    have hXr : Rd .u64 wr (.slice pa (lm B9 (a * f)).length ca) (lm B9 (a * f)) := RdC.belowB HX.out hB2 HOX.out;have HXR := Lib.hid hXr;clear hXr;have hne2 : lm B9 (a * f) ≠ [] := List.ne_nil_of_length_pos (by omega);obtain ⟨px, cx, epx, hcx, hmx, hxx⟩ := HXR.out.open;obtain ⟨bX, oX, epX, hblX, hcX⟩ := hxx hne2;cases epx;subst epX;have hcx0 := hcX i hil;have hx9 : (lm B9 (a * f))[i] < B9 := lm_lt B9 (a * f) two_le_B9 _ (List.getElem_mem hil);obtain ⟨xz, hxz⟩ : ∃ xz : Int, xz = ((lm B9 (a * f))[i] : Nat) := ⟨_, rfl⟩;rw [<- hxz] at hcx0;have hxz0 : 0 <= xz /\ xz < 1000000000 := by
     have hB9 : B9 = 1000000000 := rfl;omega
    have HXZ := Lib.hid hxz;clear hxz hxx hcX;have hil6 : i <= 1000000 := by omega
    have hr6 : (lm B9 r).length <= 1000000 := by omega
    have hx0 : Hid (dropZ ((lm B9 (a * f))[i] :: lm B9 r) = lm B9 (r * B9 + (lm B9 (a * f))[i])) := by
     unfold Hid;rw [dropZ_eq B9 two_le_B9 _ (by
      intro y hy;rcases List.mem_cons.1 hy with rfl | hy
      ·exact hx9
      ·exact lm_lt B9 r two_le_B9 y hy)]
     congr 1;simp only [lval];rw [lval_lm B9 r two_le_B9, Nat.mul_comm B9 r, Nat.add_comm]
    go_upto_region 19 with fail;go_cut [5] (fun s5 wx => Rd .u64 wx s5 (lm B9 (r * B9 + (lm B9 (a * f))[i])) /\ FreshV (g + 1) s5 /\ Arr .u64 wx g 215 q /\ Below g W2 wx /\ g + 1 <= wx.heap.size)
    case first =>
     rcases Nat.eq_zero_or_pos r with hr0 | hrpos
     ·subst hr0
      rw [lm_zero] at *;have hone : Rd .u64 (wr.alloc (.cells #[.int .u64 xz] 215)) (.slice (some ⟨wr.heap.size, 0, none⟩) 1 1) [(lm B9 (a * f))[i]] :=
       rd_one _ _ _ xz HXZ.out (by rw [World.cell?_alloc_at _ _ _ _ rfl]; rfl)
      have HONE := Lib.hid hone;have hfr1 : FreshV (g + 1) (.slice (some ⟨wr.heap.size, 0, none⟩) 1 1) := by intro a' l' c' e; cases e; exact hwr
      clear hone;cases p5;all_goals
       go_wp2_with fail;refine (trim_full _ _ _ HONE.out).mono ?_;rintro e w3 ⟨v3, rfl, ⟨hv3, hf3⟩, rfl⟩;rw [hx0.out] at hv3;go_wp2_with fail;go_meet;exact ⟨hv3, hf3 _ hfr1, (heap_old _ _ _ harr.lt).trans harr, hB2.alloc (by omega) _, by simp; omega⟩
     ·have hner : lm B9 r ≠ [] := lm_ne_nil B9 r two_le_B9 hrpos
      obtain ⟨b5, o5, rfl, hbl5, hc5'⟩ := hr5' hner;have hrow : (wr.alloc (.cells #[.int .u64 xz] 215)).ownsRow wr.heap.size 215 1 (.slice (some ⟨wr.heap.size, 0, none⟩) 1 1) 1 [.int .u64 xz] :=
       ⟨rfl, .inr ⟨wr.heap.size, 1, _, rfl, Nat.le_refl _, heap_alloc_new _ _, Nat.le_refl _, by unfold maxLen; omega, rfl, rfl⟩⟩
      have hnews : ∀ j u, ((lm B9 r).map fun x : Nat => Value.int .u64 (x : Int))[j]? = some u -> (wr.alloc (.cells #[.int .u64 xz] 215)).cell? ((⟨b5, o5, none⟩ : Addr).add j) = some u := by
       intro j u hu;have hj : j < (lm B9 r).length := by have := (List.getElem?_eq_some_iff.1 hu).1; simpa using this
       rw [List.getElem?_map, List.getElem?_eq_getElem hj] at hu;cases hu;rw [addr_add];show (wr.alloc (.cells #[.int .u64 xz] 215)).cell? ⟨b5, o5 + j, none⟩ = some (.int .u64 (((lm B9 r)[j] : Nat) : Int));exact cell_alloc_l _ (hc5' j hj)
      have hnew1 : ∀ u ∈ (lm B9 r).map fun x : Nat => Value.int .u64 (x : Int), u.oneCell' = true := by
       intro u hu;obtain ⟨y, _, rfl⟩ := List.mem_map.1 hu;rfl
      obtain ⟨i0, hi0, hz0, hz1, hz2⟩ := info_parts Tryz.info_u64;go_wp2_with (first | (at_builtin; refine wpList_append_own _ rfl _ _ 180 rfl wr.heap.size 215 i0 (.int .u64 0) 1 8 Tryz.underlying180 hi0 hz0 hz1 hz2 rfl (by decide) _ _ _ rfl hrow ⟨b5, o5, none⟩ (lm B9 r).length c5 ((lm B9 r).map fun x : Nat => Value.int .u64 (x : Int)) rfl (by simp) hnews hnew1 (by unfold maxLen; omega) (by omega) (by simp) ?_));intro v' w2 hown2 hgr2 _;have hrd2 : Rd .u64 w2 v' ((lm B9 (a * f))[i] :: lm B9 r) := by
       refine Rd.of_owns (base := wr.heap.size) (e := 215) rfl ?_;rw [List.length_cons, Nat.add_comm, List.map_cons, <- HXZ.out];exact hown2
      have hfr2 : FreshV (g + 1) v' := fun a' l' c' e => Nat.le_trans hwr (FreshV.of_owns hown2 a' l' c' e);have hB3 : Below g W2 w2 := (hB2.alloc (by omega) _).grown hgr2 (by simp; omega) (fun k hk => by have e : wr.heap.size = k := (Option.some.inj hk); omega);have harr3 : Arr .u64 w2 g 215 q := (hgr2.block g (by simp; omega) (by intro e; have e : g = wr.heap.size := (Option.some.inj e); omega)).trans ((heap_old _ _ _ harr.lt).trans harr);have hw2s : g + 1 <= w2.heap.size := by have := hgr2.size; simp at this; omega
      have HRD2 := Lib.hid hrd2;clear hown2 hgr2 hrd2 hrow hnews hnew1;go_wp2_with (first | (go_at_call 158; refine (trim_full _ _ _ HRD2.out).mono ?_; rintro e w3 ⟨v3, rfl, ⟨hv3, hf3⟩, rfl⟩; rw [hx0.out] at hv3));go_meet;exact ⟨hv3, hf3 _ hfr2, harr3, hB3, hw2s⟩
    case rest =>
     obtain ⟨hs5, hfs5, harr', hB2', hwc'⟩ := hcut;have zh : wc.cell? ⟨w.heap.size, 0, none⟩ = some (.slice (some ⟨bY, oY, none⟩) (lm B9 (b * f)).length cb) := (zcq hB2' (show w.heap.size < g by omega) z0 :);have hYr : Rd .u64 wc (.slice (some ⟨bY, oY, none⟩) (lm B9 (b * f)).length cb) (lm B9 (b * f)) := RdC.belowB HY.out hB2' HOY.out;have HYR := Lib.hid hYr;obtain ⟨R', hR'⟩ : ∃ R', R' = r * B9 + (lm B9 (a * f))[i] := ⟨_, rfl⟩;have hstep : Hid (foldD (lm B9 (a * f)) (b * f) (bwd (lm B9 (a * f)).length (k + 1)) = (q.set i (R' / (b * f)), R' % (b * f))) := by
      unfold Hid;rw [hR'];have hii : (lm B9 (a * f)).length - 1 - k = i := by have := hiz.out; omega
      rw [bwd_succ, foldD_snoc, hii, <- HFD.out];unfold stepD;simp only [List.getElem?_eq_getElem hil, Option.getD_some]
     have hkl : Hid (k < (lm B9 (a * f)).length) := by have := hiz.out; unfold Hid; omega
     have hq0 : Hid (q[i]?.getD 0 = 0) := by
      have := HZ.out k i (by have := hiz.out; omega);rw [<- HFD.out] at this;exact this
     rw [<- hR'] at hs5;have HR' := Lib.hid hR';obtain ⟨p8, c8, rfl, hc8, hm8, hr8⟩ := hs5.open;have HS5 := Lib.hid hs5;clear hs5 hYr hr5' HR5 harr hB2 hwr hf5 hcx0 HXR hR';rcases Nat.lt_or_ge R' (b * f) with hlt | hge2
     ·have hcmp : Hid (cmpN R' (b * f) = -1) := cmpN_lt hlt
      have hnext : Hid ((q, R') = foldD (lm B9 (a * f)) (b * f) (bwd (lm B9 (a * f)).length (k + 1))) := by
       unfold Hid;rw [hstep.out, Nat.div_eq_of_lt hlt, Nat.mod_eq_of_lt hlt, set_zero _ _ hq0.out]
      clear hr8;go_wp2_with (go_at_call 120; refine (order_any _ _ _ R' (b * f) HS5.out HYR.out).mono ?_; rintro e w1 ⟨_, rfl, rfl, j', rfl⟩; rw [hcmp.out]);go_roundw
      case rel => exact ⟨k + 1, q, R', _, hkl.out, rfl, by have := hiz.out; unfold Hid; omega, hnext, RdC.drewN HS5.out _, hfs5, harr', hB2'.trans ((below_drewN wc j').mono (by omega)), hwc'⟩
      case measure => simp [RowKit.intOf]
     ·have hcmp0 : ¬ cmpN R' (b * f) < 0 := by unfold cmpN; rw [if_neg (by omega)]; split <;> omega
      obtain ⟨cq, hcq⟩ : ∃ cq, cq = cmpN R' (b * f) := ⟨_, rfl⟩;rw [<- hcq] at hcmp0;have HCQ := Lib.hid hcq;have hRb : R' < b * f * B9 := by
       rw [HR'.out];have h1 : (r + 1) * B9 <= b * f * B9 := Nat.mul_le_mul_right _ hrB;rw [Nat.add_mul] at h1;omega
      obtain ⟨ly, hly⟩ : ∃ ly, ly = (lm B9 (b * f)).length := ⟨_, rfl⟩;have hlyk : ly = ky + 1 := by rw [hly]; exact HKY.out
      have hlR1 : ly <= (lm B9 R').length := by
       rw [hly];rcases Nat.lt_or_ge (lm B9 R').length (lm B9 (b * f)).length with h | h
       ·have := lm_lt_of_len B9 R' (b * f) two_le_B9 h
        omega
       ·exact h
      have hlR2 : (lm B9 R').length <= ly + 1 := by
       rw [hly];refine lm_len_le B9 R' _ two_le_B9 (Nat.lt_of_lt_of_le hRb ?_);rw [Nat.pow_succ];exact Nat.mul_le_mul_right _ (Nat.le_of_lt (lm_len_lt B9 (b * f) two_le_B9))
      have hneR : lm B9 R' ≠ [] := List.ne_nil_of_length_pos (by omega);obtain ⟨b8, o8, rfl, hbl8, hc8'⟩ := hr8 hneR;have hlR6 : (lm B9 R').length <= 1000000 := by omega
      have hlR0 : 2 <= (lm B9 R').length := by omega
      have hcT := hc8' ((lm B9 R').length - 1) (by omega);have htR : (lm B9 R')[(lm B9 R').length - 1]'(by omega) < B9 := lm_lt B9 R' two_le_B9 _ (List.getElem_mem _);obtain ⟨uz, huz⟩ : ∃ uz : Int, uz = ((lm B9 R')[(lm B9 R').length - 1]'(by omega) : Nat) := ⟨_, rfl⟩;rw [<- huz] at hcT;have huz0 : 0 <= uz /\ uz < 1000000000 := by
       have hB9 : B9 = 1000000000 := rfl;omega
      have hcU := hc8' ((lm B9 R').length - 2) (by omega);have htU : (lm B9 R')[(lm B9 R').length - 2]'(by omega) < B9 := lm_lt B9 R' two_le_B9 _ (List.getElem_mem _);obtain ⟨vz, hvz⟩ : ∃ vz : Int, vz = ((lm B9 R')[(lm B9 R').length - 2]'(by omega) : Nat) := ⟨_, rfl⟩;rw [<- hvz] at hcU;have hvz0 : 0 <= vz /\ vz < 1000000000 := by
       have hB9 : B9 = 1000000000 := rfl;omega
      have hq9 : R' / (b * f) < B9 := Nat.div_lt_of_lt_mul hRb;have hQ0 := HQL.out k q r HFD.out;have HQ0 := Lib.hid hQ0;have HTZ2 := Lib.hid huz;have HVZ2 := Lib.hid hvz;have HLY := Lib.hid hly;have HLYK := Lib.hid hlyk;clear hcq huz hvz hc8' hr8 hQ0 hly hlyk;rw [HLY.out] at hlR1 hlR2;have HRB := Lib.hid hRb;have HTR := Lib.hid htR;have HTU := Lib.hid htU;have HQ9 := Lib.hid hq9;clear hRb htR htU hq9;go_wp2_with fail;refine (order_any _ _ _ R' (b * f) HS5.out HYR.out).mono ?_;rintro e w1 ⟨_, rfl, rfl, j', rfl⟩;rw [<- HCQ.out];have hcb : decide (cq < 0) = false := by simp; omega
      go_upto_region 21 with fail;have g0 : (wc.drewN j').cell? ⟨w.heap.size, 0, none⟩ = some (.slice (some ⟨bY, oY, none⟩) (lm B9 (b * f)).length cb) := zh;have g1 : (wc.drewN j').cell? ⟨b8, o8 + ((lm B9 R').length - 1), none⟩ = some (.int .u64 uz) := hcT;have g2 : (wc.drewN j').cell? ⟨b8, o8 + ((lm B9 R').length - 2), none⟩ = some (.int .u64 vz) := hcU;rcases Nat.lt_or_ge (lm B9 (b * f)).length (lm B9 R').length with hLL | hLL
      case' inl =>
       have t1 : decide ((lm B9 (b * f)).length < (lm B9 R').length) = true := decide_eq_true hLL
       have HDD : Hid (0 <= uz * 1000000000 + vz /\ uz * 1000000000 + vz <= 1000000000000000000 /\ R' < ((uz * 1000000000 + vz).toNat + 1) * B9 ^ ky) := by
            refine ⟨by omega, by omega, ?_⟩;have h1 : (lm B9 R').length = ky + 2 := by have := HLY.out; have := HLYK.out; omega
            have h2 := lm_drop_lt R' ky;rw [drop_two h1] at h2;simp only [lval, Nat.mul_zero, Nat.add_zero] at h2;have e1 : uz = ((lm B9 R')[ky + 1]'(by omega) : Nat) := by rw [HTZ2.out]; congr 2; omega
            have e2 : vz = ((lm B9 R')[ky]'(by omega) : Nat) := by rw [HVZ2.out]; congr 2; omega
            have e3 : (uz * 1000000000 + vz).toNat = (lm B9 R')[ky]'(by omega) + B9 * (lm B9 R')[ky + 1]'(by omega) := by
             have hB9 : B9 = 1000000000 := rfl;have hb9' : ∀ m : Nat, B9 * m = 1000000000 * m := fun m => rfl;rw [hb9'];generalize (lm B9 R')[ky]'(by omega) = x2 at *;generalize (lm B9 R')[ky + 1]'(by omega) = x1 at *;omega
            rw [e3]; exact h2
       go_upto_region 24 with fail;generalize uz * 1000000000 + vz = Dz at *;clear t1
      case' inr =>
       have t1 : decide ((lm B9 (b * f)).length < (lm B9 R').length) = false := decide_eq_false (by omega)
       have HDD : Hid (0 <= uz /\ uz <= 1000000000000000000 /\ R' < (uz.toNat + 1) * B9 ^ ky) := by
            refine ⟨by omega, by omega, ?_⟩;have h1 : (lm B9 R').length = ky + 1 := by have := HLY.out; have := HLYK.out; omega
            have h2 := lm_drop_lt R' ky;rw [drop_one' h1] at h2;simp only [lval, Nat.mul_zero, Nat.add_zero] at h2;have e1 : uz = ((lm B9 R')[ky]'(by omega) : Nat) := by rw [HTZ2.out]; congr 2; omega
            have e3 : uz.toNat = (lm B9 R')[ky]'(by omega) := by omega
            rw [e3]; exact h2
       go_upto_region 24 with fail;obtain ⟨Dz, hDz⟩ : ∃ Dz, Dz = uz := ⟨_, rfl⟩;rw [<- hDz] at HDD ⊢;clear t1 hDz
      all_goals
       obtain ⟨hD0, hD1, hD2⟩ := HDD.out
       have hdq : R' / (b * f) <= Dz.toNat / ty.toNat := by
            have h1 := HTOP.out;have h2 : ty.toNat = (lm B9 (b * f))[ky] := by have := HTY.out; omega
            rw [h2];exact guess_ge h1.1 hD2 h1.2.2
       have HDQ := Lib.hid hdq;clear hdq hD2;go_upto_region 25 with fail
       obtain ⟨dn, hdn, hdn9, hdnq⟩ : ∃ dn : Nat, min (Dz / ty) 999999999 = (dn : Int) /\ dn <= 999999999 /\ R' / (b * f) <= dn := by
            have h0 : 0 <= Dz / ty := Int.ediv_nonneg hD0 (by omega);have h1 : (Dz / ty).toNat = Dz.toNat / ty.toNat := by
             have e1 : Dz = (Dz.toNat : Int) := by omega
             have e2 : ty = (ty.toNat : Int) := by omega
             conv => lhs; rw [e1, e2, <- Int.natCast_ediv, Int.toNat_natCast]
            have h2 := HDQ.out;have h3 := HQ9.out;have hB9 : B9 = 1000000000 := rfl;generalize R' / (b * f) = Q at *;refine ⟨(min (Dz / ty) 999999999).toNat, by omega, by omega, ?_⟩;rw [<- h1] at h2;omega
       generalize min (Dz / ty) 999999999 = dz at *;have hdz0 : 0 <= dz /\ dz <= 999999999 := by omega
       have HDN := Lib.hid hdn;have HDNQ := Lib.hid hdnq;have hlb6 : (lm B9 (b * f)).length <= 1000000 := by omega
       clear hdn hdnq g1 g2 hcT hcU;go_wp2_with fail;refine (small_any _ _ (b * f) dn dz HDN.out (RdC.drewN HYR.out _) hlb6 (by unfold B9; omega)).mono ?_;rintro e w2 ⟨v2, rfl, hv2, hb2⟩;have hwd : (wc.drewN j').heap.size = wc.heap.size := rfl;have hbel0 : Below wc.heap.size wc w2 := (below_drewN wc j').trans hb2;clear hb2 hwd;go_wp2_with fail;obtain ⟨wo, hwo⟩ : ∃ wo : World, wo = wr := ⟨_, rfl⟩;subst hwo;go_loopw [12, 13] (fun t12 t13 wr => ∃ (dn : Nat) (dz : Int), t12 = .int .u64 dz /\ Hid (dz = dn) /\ 0 <= dz /\ dz <= 999999999 /\ Hid (R' / (b * f) <= dn) /\ Rd .u64 wr t13 (lm B9 (b * f * dn)) /\ Below wc.heap.size wc wr) (fun t12 _ _ => (intOf t12).toNat)
       case atStart => exact ⟨dn, dz, rfl, HDN, hdz0.1, hdz0.2, HDNQ, hv2, hbel0⟩
       case round =>
            clear HDN HDNQ hdz0 hdn9 hv2 hbel0;obtain ⟨dn, dz, rfl, HDN, hdz1, hdz2, HDNQ, hrdp, hbel⟩ := hrel;obtain ⟨pp, cp, rfl, hcp, hmp, hrp⟩ := hrdp.open;have HRP := Lib.hid hrdp;have hlp : (lm B9 (b * f * dn)).length <= 1000000 := by
             refine Nat.le_trans (lm_len_le B9 (b * f * dn) ((lm B9 (b * f)).length + 1) two_le_B9 ?_) (by omega);rw [Nat.pow_succ];have h1 := lm_len_lt B9 (b * f) two_le_B9;have h2 : dn < B9 := by have := HDN.out; have hB9 : B9 = 1000000000 := rfl; omega
             exact Nat.mul_lt_mul_of_lt_of_le h1 (Nat.le_of_lt h2) (by decide)
            have HR5 : Hid (Rd .u64 wr (.slice (some ⟨b8, o8, none⟩) (lm B9 R').length c8) (lm B9 R')) := RdC.below HS5.out hbel;have HRY : Hid (Rd .u64 wr (.slice (some ⟨bY, oY, none⟩) (lm B9 (b * f)).length cb) (lm B9 (b * f))) := RdC.below HYR.out hbel;have zh2 : wr.cell? ⟨w.heap.size, 0, none⟩ = some (.slice (some ⟨bY, oY, none⟩) (lm B9 (b * f)).length cb) := (zcq hbel (show w.heap.size < wc.heap.size by omega) zh :);clear hrdp hrp;rcases Nat.lt_or_ge R' (b * f * dn) with hgt | hle
            ·have hdn1 : 1 <= dn := by
              rcases Nat.eq_zero_or_pos dn with h0 | h0
              ·rw [h0, Nat.mul_zero] at hgt; omega
              ·exact h0
             have hdz3 : 1 <= dz := by have := HDN.out; omega
             have hc1 : Hid (cmpN (b * f * dn) R' = 1) := cmpN_gt hgt;have hbd : b * f <= b * f * dn := Nat.le_mul_of_pos_right _ hdn1;have HSB : Hid (b * f * dn - b * f = b * f * (dn - 1)) := by unfold Hid; rw [Nat.mul_sub, Nat.mul_one]
             have HDM : Hid (dz - 1 = ((dn - 1 : Nat) : Int)) := by unfold Hid; rw [HDN.out]; omega
             have HQM : Hid (R' / (b * f) <= dn - 1) := by
              unfold Hid;have : R' / (b * f) < dn := Nat.div_lt_of_lt_mul hgt;omega
             clear hgt;go_wp2_with fail;refine (order_any _ _ _ (b * f * dn) R' HRP.out HR5.out).mono ?_;rintro e w3 ⟨_, rfl, rfl, j3, rfl⟩;rw [hc1.out];have zh3 : (wr.drewN j3).cell? ⟨w.heap.size, 0, none⟩ = some (.slice (some ⟨bY, oY, none⟩) (lm B9 (b * f)).length cb) := zh2;go_wp2_with fail;refine (minus_any _ _ _ (b * f * dn) (b * f) (RdC.drewN HRP.out _) (RdC.drewN HRY.out _) hbd hlp).mono ?_;rintro e w4 ⟨v4, rfl, hv4, hb4⟩;rw [HSB.out] at hv4;have hbel4 : Below wc.heap.size wc w4 := hbel.trans (((below_drewN wr j3).trans hb4).mono hbel.size);clear hb4 HSB hc1 hbd;go_wp2_with fail;go_roundw
             case rel => exact ⟨dn - 1, dz - 1, rfl, HDM, by omega, by omega, HQM, hv4, hbel4⟩
             case measure => simp [RowKit.intOf]; omega
            ·have hdq : Hid (dn = R' / (b * f)) := by
              unfold Hid;have h1 := HDNQ.out;have h2 : dn <= R' / (b * f) := by
               rw [Nat.le_div_iff_mul_le hbf0, Nat.mul_comm]; exact hle
              omega
             have hc1 : ∃ cy, Hid (cy = cmpN (b * f * dn) R') /\ cy <= 0 := ⟨_, rfl, by unfold cmpN; split; omega; rw [if_neg (by omega)]; omega⟩;obtain ⟨cy, HCY, hcy⟩ := hc1;have hcyb : decide (0 < cy) = false := by simp; omega
             have HSB : Hid (R' - b * f * dn = R' % (b * f)) := by
              unfold Hid;have := Nat.div_add_mod R' (b * f);rw [hdq.out]; omega
             have hlR7 : (lm B9 R').length <= 1000000 := hlR6;go_wp2_with fail;refine (order_any _ _ _ (b * f * dn) R' HRP.out HR5.out).mono ?_;rintro e w3 ⟨_, rfl, rfl, j3, rfl⟩;rw [<- HCY.out];go_upto_region 29 with fail;have x1 : (wr.drewN j3).cell? ⟨w.heap.size + 1, 0, none⟩ = some (.slice (some ⟨g, 0, none⟩) (lm B9 (a * f)).length (lm B9 (a * f)).length) :=
              (hbel.cell (p := ⟨w.heap.size + 1, 0, none⟩) (show w.heap.size + 1 < wc.heap.size by omega)).trans ((zcq hB2' (show w.heap.size + 1 < g by omega) z1 :))
             have xA : Arr .u64 (wr.drewN j3) g 215 q := Arr.drewN (Arr.below harr' hbel) j3;have xR := RdC.drewN HR5.out j3;have xP := RdC.drewN HRP.out j3;have xB : Below g W2 (wr.drewN j3) := hB2'.trans ((hbel.trans ((below_drewN wr j3).mono hbel.size)).mono (show g <= wc.heap.size by omega));have xs : g + 1 <= (wr.drewN j3).heap.size := by have := hbel.size; show g + 1 <= wr.heap.size; omega
             clear hbel HR5 HRY HRP zh2;generalize wr.drewN j3 = X at *;have hqi : i < q.length := by rw [HQ0.out]; exact hil
             have xi := xA.cell i hqi;have xif := xA.frozen i;have XRD : Hid (Rd .u64 X.drew (.slice (some ⟨b8, o8, none⟩) (lm B9 R').length c8) (lm B9 R')) := xR;have XPD : Hid (Rd .u64 X.drew (.slice pp (lm B9 (b * f * dn)).length cp) (lm B9 (b * f * dn))) := xP;have XA := Lib.hid xA;have XB := Lib.hid xB;have HLE := Lib.hid hle;clear xR xP xA xB hle;have f1 : (0 : Int) <= (i : Int) := by omega
             have f2 : (i : Int) < ((lm B9 (a * f)).length : Int) := by omega
             have hXd : X.drew.heap.size = X.heap.size := rfl;have HXD := Lib.hid hXd;clear hXd
             go_region_with (first
              | (go_at_call 121; refine (minus_full _ _ _ R' (b * f * dn) XRD.out XPD.out HLE.out hlR7).mono ?_; rintro e w4 ⟨v4, rfl, ⟨hv4, hf4⟩, hb4⟩
                 have y1 := zcq hb4 (show w.heap.size + 1 < X.heap.size by omega) x1;have yi := zcq hb4 (show g < X.heap.size by omega) xi;have yif := (hb4.frozen (p := ⟨g, i, none⟩) (show g < X.heap.size by omega)).trans xif;obtain ⟨p4, c4, rfl, hc4, hm4, hr4⟩ := hv4.open;clear hr4))
             all_goals
              have zz : Hid (Value.int .u64 dz = .int .u64 ((R' / (b * f) : Nat) : Int)) := by unfold Hid; rw [HDN.out, hdq.out]
              have XA4 : Hid (Arr .u64 w4 g 215 q) := Arr.below (w := X.drew) XA.out hb4;have hsz4 := hb4.size;have XB4 : Hid (Below g W2 w4) := XB.out.trans ((((Below.refl X.heap.size X).drew).trans hb4).mono (show g <= X.heap.size by omega));have hfr4 : FreshV (g + 1) (.slice p4 (lm B9 (R' - b * f * dn)).length c4) := fun a' l' c' e => Nat.le_trans (show g + 1 <= X.drew.heap.size from xs) (hf4 a' l' c' e);rw [HSB.out] at *;have HV4 := Lib.hid hv4;have hw4s : g + 1 <= w4.heap.size := Nat.le_trans (show g + 1 <= X.drew.heap.size from xs) hsz4;clear hb4 hf4 hv4 yi yif y1 xi xif x1 hsz4;go_wp2_with fail;go_roundw
              case rel =>
               exact ⟨k + 1, q.set i (R' / (b * f)), R' % (b * f), _, hkl.out, rfl, by have := hiz.out; unfold Hid; omega, hstep.out.symm, RdC.set_fresh HV4.out hfr4 _, hfr4, XA4.out.set i _ zz.out, XB4.out.setCell (Nat.le_refl _) _, by simp [World.setCell]; omega⟩
              case measure => simp [RowKit.intOf]
end Go.Proofs.YtgdpoankaojklaaGreatDoor
