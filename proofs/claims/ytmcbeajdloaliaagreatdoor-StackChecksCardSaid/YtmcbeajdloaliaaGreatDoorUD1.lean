import Derived.Test.YtmcbeajdloaliaaGreatDoorUB2
/- Integer.divide: the first parts. -/
set_option maxHeartbeats 4000000
set_option maxRecDepth 100000
namespace Go.Proofs.YtmcbeajdloaliaaGreatDoor
open Go.RowKit Go.Shelf Go.Lib
attribute [local go_sem] Oper.semAt_some
def QR (q r : Nat) (v : Value) (w' : World) : Prop := ∃ vq vr, v = .tuple #[vq, vr] /\ Rd .u64 w' vq (lm B9 q) /\ Rd .u64 w' vr (lm B9 r)
theorem Rd.drewN {k : IntKind} {w : World} {v : Value} {l : List Nat} (h : Rd k w v l) (n : Nat) : Rd k (w.drewN n) v l := RdC.drewN h n
theorem dls (w : World) (L K : Value) (a b : Nat) (R : Rd .u64 w L (lm B9 a)) (O : Rd .u64 w K (lm B9 b)) (X : a < b) :
 Calls Tryz.prog 132 #[L, K] w (Ret (QR (a / b) (a % b)) w) := by
 have G : Hid (cmpN a b = -1) := cNl X;have N : Hid (a / b = 0 /\ a % b = a) := ⟨Nat.div_eq_of_lt X, Nat.mod_eq_of_lt X⟩;obtain ⟨p, c, rfl, E, D, _⟩ := O.open;obtain ⟨M, c', rfl, C, B, _⟩ := R.open;have U : ∀ o1 o2, Rd .u64 ((w.alloc o1).alloc o2) (.slice M (lm B9 a).length c') (lm B9 a) := fun o1 o2 => (R.alloc o1).alloc o2;have S : ∀ o1 o2, Rd .u64 ((w.alloc o1).alloc o2) (.slice p (lm B9 b).length c) (lm B9 b) := fun o1 o2 => (O.alloc o1).alloc o2;have J := hid U;have I := hid S;have V := R;have Q := hid V;clear U S R O V;go_enter Tryz.func132, Tryz.ntmps132;go_wp2_with fail;refine (oay _ _ _ a b (J.out _ _) (I.out _ _)).mono ?_;rintro e A ⟨_, rfl, rfl, n, rfl⟩;rw [G.out];have Y : Below w.heap.size w (((((w.alloc (.cells #[.slice p (lm B9 b).length c] 162)).alloc (.cells #[.slice none 0 0] 162)).drewN n).setCell ⟨w.heap.size + 1, 0, none⟩ (.slice none 0 0))) :=
  ((((Below.refl _ w).alloc (Nat.le_refl _) _).alloc (by simp) _).trans (bdN _ n |>.mono (by simp; omega))).setCell (by simp) _
 have Z : (((((w.alloc (.cells #[.slice p (lm B9 b).length c] 162)).alloc (.cells #[.slice none 0 0] 162)).drewN n).setCell ⟨w.heap.size + 1, 0, none⟩ (.slice none 0 0))).cell? ⟨w.heap.size + 1, 0, none⟩ = some (.slice none 0 0) :=
  World.cell?_setCell_same' _ _ _ (by rw [World.cell?_drewN, World.cell?_alloc_at _ _ _ _ (by simp)]; rfl)
 have H := hid Z;clear Z;go_wp2_with fail;refine bodyPost_ret (v := .tuple #[.slice none 0 0, .slice M (lm B9 a).length c']) (by simp [results, Tryz.results132, go_sem, H.out]) rfl ?_;refine ⟨_, rfl, ⟨_, _, rfl, ?_, ?_⟩, Y⟩
 ·rw [N.out.1, lzo]; exact RdC.nil0 _ _
 ·rw [N.out.2]
  exact RdC.below Q.out Y
end Go.Proofs.YtmcbeajdloaliaaGreatDoor
namespace Go.Proofs.YtmcbeajdloaliaaGreatDoor
open Go.RowKit Go.Shelf Go.Lib
attribute [local go_sem] Oper.semAt_some
def stepD (xs : List Nat) (b : Nat) (s : List Nat × Nat) (i : Nat) : List Nat × Nat := (s.1.set i ((s.2 * B9 + (xs[i]?.getD 0)) / b), (s.2 * B9 + (xs[i]?.getD 0)) % b)
def foldD (xs : List Nat) (b : Nat) (pre : List Nat) : List Nat × Nat := pre.foldl (stepD xs b) (List.replicate xs.length 0, 0)
theorem fDs (xs : List Nat) (b : Nat) (pre : List Nat) (i : Nat) : foldD xs b (pre ++ [i]) = stepD xs b (foldD xs b pre) i := by simp [foldD]
theorem fDi {xs : List Nat} {b : Nat} (hx : ∀ x ∈ xs, x < B9) (Y : 0 < b) (pre : List Nat) :
 (foldD xs b pre).1.length = xs.length /\ Lt9 (foldD xs b pre).1 /\ (foldD xs b pre).2 < b := by
 generalize Z : pre.length = n
 induction n generalizing pre with
 | zero => obtain rfl := List.length_eq_zero_iff.1 Z; simp [foldD, Lt9.replicate]; exact Y
 | succ n ih =>
   rcases List.eq_nil_or_concat pre with rfl | ⟨L, i, rfl⟩
   ·simp at Z
   ·rw [List.concat_eq_append] at *
    obtain ⟨X, V, U⟩ := ih L (by simp at Z; omega);rw [fDs];have R := gDl hx i;unfold stepD;refine ⟨by simp [X], V.set _ _ ?_, Nat.mod_lt _ Y⟩;apply Nat.div_lt_of_lt_mul;have S : ((foldD xs b L).2 + 1) * B9 <= b * B9 := Nat.mul_le_mul_right _ U;rw [Nat.add_mul] at S;omega
theorem sDa {B x r o q s b : Nat} (Z : b * q + s = r * B + x) : x + B * (b * o + r) = b * (q + B * o) + s := by grind
theorem fDv {xs : List Nat} {b : Nat} (hx : ∀ x ∈ xs, x < B9) (U : 0 < b) (k : Nat) (L : k <= xs.length) :
 lval B9 (xs.drop (xs.length - k)) = b * lval B9 ((foldD xs b (bwd xs.length k)).1.drop (xs.length - k)) + (foldD xs b (bwd xs.length k)).2 := by
 induction k with
 | zero =>
   have Q := (fDi hx U (bwd xs.length 0)).1;rw [Nat.sub_zero, List.drop_eq_nil_of_le (Nat.le_refl _), List.drop_eq_nil_of_le (by omega)];simp [lval, bwd, foldD]
 | succ k ih =>
   have X := ih (by omega);obtain ⟨Q, N, M⟩ := fDi hx U (bwd xs.length k);rw [bsc, fDs];have S : xs.length - 1 - k < xs.length := by omega
   have Z : xs.length - 1 - k < (foldD xs b (bwd xs.length k)).1.length := by omega
   have R : xs.length - (k + 1) = xs.length - 1 - k := by omega
   have V : xs.length - 1 - k + 1 = xs.length - k := by omega
   unfold stepD;simp only;have Y : xs.length - 1 - k < ((foldD xs b (bwd xs.length k)).1.set (xs.length - 1 - k) (((foldD xs b (bwd xs.length k)).2 * B9 + (xs[xs.length - 1 - k]?.getD 0)) / b)).length := by rw [List.length_set]; exact Z
   rw [R, List.drop_eq_getElem_cons S, V, List.drop_eq_getElem_cons Y, V, List.getElem_set_self, List.drop_set_of_lt (by omega)];simp only [lval];rw [X];have O : xs[xs.length - 1 - k]?.getD 0 = xs[xs.length - 1 - k] := by simp [S]
   rw [O];exact sDa (Nat.div_add_mod _ b)
theorem fi0 {a b : Nat} (Y : 0 < b) (R : b < B9) :
 dropZ (foldD (lm B9 a) b (bwd (lm B9 a).length (lm B9 a).length)).1 = lm B9 (a / b) /\ dropZ [(foldD (lm B9 a) b (bwd (lm B9 a).length (lm B9 a).length)).2] = lm B9 (a % b) := by
 have hx := lm_lt B9 a tlB;obtain ⟨Q, S, X⟩ := fDi hx Y (bwd (lm B9 a).length (lm B9 a).length);have Z := fDv hx Y (lm B9 a).length (Nat.le_refl _);rw [Nat.sub_self, List.drop_zero, List.drop_zero, llm B9 a tlB] at Z;generalize foldD (lm B9 a) b (bwd (lm B9 a).length (lm B9 a).length) = s at *;have V : a / b = lval B9 s.1 := by rw [Z, Nat.mul_add_div Y, Nat.div_eq_of_lt X, Nat.add_zero]
 have U : a % b = s.2 := by rw [Z, Nat.mul_add_mod_self_left, Nat.mod_eq_of_lt X]
 rw [V, U];refine ⟨dZe B9 tlB _ S, ?_⟩;rw [dZe B9 tlB [s.2] (by intro y hy; simp at hy; omega)];simp [lval]
theorem cal {W : World} {p : Addr} {v : Value} (o : Obj) (h : W.cell? p = some v) : (W.alloc o).cell? p = some v := cell_kept h (World.grownBy_alloc W o none) (fun r e => by cases e)
theorem fal {W : World} {p : Addr} {v : Value} (o : Obj) (h : W.cell? p = some v) (Z : W.frozen? p = false) : (W.alloc o).frozen? p = false := (frozen_kept h (World.grownBy_alloc W o none) (fun r e => by cases e)).trans Z
theorem roe (X : World) (h s : Nat) (z : Int) (Y : z = s) (Z : X.cell? ⟨h, 0, none⟩ = some (.int .u64 z)) : Rd .u64 X (.slice (some ⟨h, 0, none⟩) 1 1) [s] := by
 subst Y;refine ⟨_, _, rfl, by simp, by unfold maxLen; omega, by simp, fun _ => ⟨h, 0, rfl, fun i x hx => ?_⟩⟩;rcases i with _ | i
 ·simp at hx; subst hx; exact Z
 ·simp at hx
def zeros (n : Nat) : Array Value := ((List.replicate n 0).map fun x : Nat => Value.int .u64 (x : Int)).toArray
theorem rpt {k : IntKind} {w : World} {v : Value} {l : List Nat} (h : Rd k w v l) {D : Nat} {o : Obj} (O : w.heap[D]? = some o) (M : o.isCells = false) (J : Obj) : Rd k (w.putObj D J) v l := by
 obtain ⟨p, c, K, U, S, R, Q⟩ := h;refine ⟨p, c, K, U, S, R, fun hne => ?_⟩;obtain ⟨b, off, L, N⟩ := Q hne;refine ⟨b, off, L, fun i x hx => ?_⟩;have V := N i x hx;obtain ⟨I, Y, Z⟩ := cells_of_cell V;have X : b ≠ D := fun e => by subst e; rw [O] at Y; cases Y; rw [M] at Z; cases Z
 exact (World.cell?_of_block (World.putObj_heap_other X)).trans V
theorem rmu (n : Nat) (Q : n <= 10000000) (w : World) :
 (Instr.makeSlice 162 (.int .i64 (n : Int)) (.int .i64 (n : Int))).run Tryz.prog w = .ok (.slice (some ⟨w.heap.size, 0, none⟩) n n) (w.alloc (.cells (zeros n) 193)) := by
 obtain ⟨U, V, Z, Y, X⟩ := info_parts Tryz.info_u64;have h := run_make (P := Tryz.prog) w 162 193 U (.int .u64 0) Tryz.underlying162 V Z .i64 .i64 (n : Int) (n : Int) (by omega) (Int.le_refl _) (by rw [X]; omega) (by omega);rw [h, Y];have e : madeCells (Value.int .u64 0).cells ((n : Int).toNat * 1) = zeros n := by
  unfold zeros;simp only [Int.toNat_natCast, Nat.mul_one];apply Array.ext
  ·simp [size_madeCells]
  ·intro i S R
   simp [madeCells, Value.cells, Nat.mod_one]
 rw [e];simp only [Int.toNat_natCast]
theorem doi (n : Nat) (hn : 6 <= n) (w : World) (va vb : Value) (a b : Nat) (ha : Rd .u64 w va (lm B9 a)) (hb : Rd .u64 w vb (lm B9 b)) (y9 : b <= a) (zc : 0 < b) (zd : b < B9)
 (zl : (lm B9 a).length <= 1000000) :
 CallsIn Fence.wide n Tryz.prog 132 #[va, vb] w (Ret (QR (a / b) (a % b)) w) := by
 have h1 : 1 <= n := by omega
 obtain ⟨cz, hU⟩ := zex (cmpN a b);have zO : ¬ cz < 0 := by rw [hU]; unfold cmpN; split; omega; split <;> omega
 have H := fi0 (a := a) zc zd;have hH := fun pre => fDi (lm_lt B9 a tlB) zc pre;have zk : lm B9 b = [b] := by
  have := (dZe B9 tlB [b] (by intro y hy; simp at hy; omega)).symm;simp only [lval, Nat.mul_zero, Nat.add_zero] at this;rw [this, <- List.nil_append [b], dZs _ _ (by omega)]
 have ye := rmu (lm B9 a).length (by omega);obtain ⟨p, c, rfl, V, hm, hr⟩ := ha.open;have hQ := hb;rw [zk] at hQ;obtain ⟨q, d, rfl, hd, yd, m⟩ := hQ.open;obtain ⟨bb, ob, rfl, hg, zf⟩ := m (by simp);have t := zf 0 (by simp);simp only [List.getElem_cons_zero, Nat.add_zero] at t;refine callsIn_of_wp_marks Tryz.func132 rfl trivial ?_ rfl;simp only [Tryz.ntmps132, List.size_toArray, List.length_cons, List.length_nil, Nat.reduceAdd, Nat.reduceSub, Array.replicate_succ, Array.replicate_zero, List.push_toArray, List.append_toArray, List.nil_append, List.cons_append];have z2 := hid H;have hx := hid hH;have HR := hid hr;have zr := hid hU;have HA := hid ha;have HB := hid hb;have zs := hid (lm_lt B9 a tlB);clear H hH hr hU ha hb m zf hQ zk;gi_wp2_with fail;refine ⟨trivial, ?_⟩;refine CallsIn.mono (callsIn_wide.2 (oay _ _ _ a b ((HA.out.alloc _).alloc _) ((HB.out.alloc _).alloc _))) ?_;rintro e w1 ⟨_, rfl, rfl, j, rfl⟩;rw [<- zr.out];gi_wp2_with fail;generalize I : ((((w.alloc (Obj.cells #[Value.slice (some { block := bb, off := ob }) 1 d] 162)).alloc (Obj.cells #[Value.slice none 0 0] 162)).drewN j).setCell { block := w.heap.size + 1, off := 0 }
  (Value.slice (some { block := w.heap.size + 1 + 1, off := 0 }) (lm B9 a).length (lm B9 a).length)) = X
 have zb : X.heap.size = w.heap.size + 2 := by rw [<- I]; simp [World.setCell]
 have hP : Below w.heap.size w X := by
  rw [<- I];exact ((((Below.refl _ w).alloc (Nat.le_refl _) _).alloc (by simp) _).trans (bdN _ j |>.mono (by simp; omega))).setCell (by simp) _
 have x0 : X.cell? ⟨w.heap.size, 0, none⟩ = some (.slice (some ⟨bb, ob, none⟩) 1 d) := by
  rw [<- I, World.cell?_setCell_other _ _ _ _ (by simp), World.cell?_drewN, World.cell?_alloc_past _ _ _ (by simp), World.cell?_alloc_at _ _ _ _ rfl]; rfl
 have x1 : X.cell? ⟨w.heap.size + 1, 0, none⟩ = some (.slice (some ⟨w.heap.size + 2, 0, none⟩) (lm B9 a).length (lm B9 a).length) := by
  rw [<- I];exact World.cell?_setCell_same' _ _ _ (by rw [World.cell?_drewN, World.cell?_alloc_at _ _ _ _ (by simp)]; rfl)
 have hZ : X.frozen? ⟨w.heap.size + 1, 0, none⟩ = false := by
  rw [<- I, World.frozen?_setCell];exact World.frozen?_alloc_at _ _ _ _ (by simp)
 have x2 := heap_alloc_new X (Obj.cells (zeros (lm B9 a).length) 193);rw [zb] at x2;clear I;generalize z : (X.alloc (Obj.cells (zeros (lm B9 a).length) 193)).alloc (Obj.cells #[Value.int IntKind.u64 0] 193) = W1;have zn : W1.heap.size = w.heap.size + 4 := by rw [<- z]; simp; omega
 have hS : Below w.heap.size w W1 := by
  rw [<- z];exact (hP.alloc hP.size _).alloc (by simp; omega) _
 have c0 : W1.cell? ⟨w.heap.size, 0, none⟩ = some (.slice (some ⟨bb, ob, none⟩) 1 d) := by
  rw [<- z, World.cell?_alloc_past _ _ _ (by simp; omega), World.cell?_alloc_past _ _ _ (by show w.heap.size < X.heap.size; omega)]; exact x0
 have c1 : W1.cell? ⟨w.heap.size + 1, 0, none⟩ = some (.slice (some ⟨w.heap.size + 2, 0, none⟩) (lm B9 a).length (lm B9 a).length) := by
  rw [<- z, World.cell?_alloc_past _ _ _ (by simp; omega), World.cell?_alloc_past _ _ _ (by show w.heap.size + 1 < X.heap.size; omega)]; exact x1
 have zt : W1.frozen? ⟨w.heap.size + 1, 0, none⟩ = false := by rw [<- z]; exact fal _ (cal _ x1) (fal _ x1 hZ)
 have c2 : Arr .u64 W1 (w.heap.size + 2) 193 (List.replicate (lm B9 a).length 0) := by
  rw [<- z];unfold Arr;rw [ho0 _ _ _ (by simp; omega), x2];rfl
 have c3 : W1.cell? ⟨w.heap.size + 3, 0, none⟩ = some (.int .u64 0) /\ W1.frozen? ⟨w.heap.size + 3, 0, none⟩ = false := by
  rw [<- z];exact ⟨by rw [World.cell?_alloc_at _ _ _ _ (by simp; omega)]; rfl, World.frozen?_alloc_at _ _ _ _ (by simp; omega)⟩
 clear z x0 x1 hZ x2 hP zb X;refine ⟨trivial, ?_⟩;refine CallsIn.mono (callsIn_wide.2 (bay _ _ _ _)) ?_;rintro e w3 ⟨rfl, rfl⟩;gi_wp2_with fail;have ze : Below w.heap.size w (W1.alloc (.cells #[.slice p (lm B9 a).length c] 162)) := hS.alloc hS.size _;have zH : lm B9 a ≠ [] -> ∃ b off, p = some ⟨b, off, none⟩ /\ b < w.heap.size /\ ∀ (i : Nat) (hi : i < (lm B9 a).length), (W1.alloc (.cells #[.slice p (lm B9 a).length c] 162)).cell? ⟨b, off + i, none⟩ = some (.int .u64 (((lm B9 a)[i] : Nat) : Int)) := fun Z => by
  obtain ⟨b, off, hp, hg, h6⟩ := HR.out Z;exact ⟨b, off, hp, hg, fun i hi => (zcq ze hg (h6 i hi) :)⟩
 have zM := zcq hS hg t;generalize lm B9 a = xs at *;refine wpIn_rangeFunc_ownF rfl h1 (gf := 177) (lb := #[.pointer (some ⟨w.heap.size + 4, 0, none⟩)]) rfl trivial (enters_of Tryz.func177 (by kernel_rfl) rfl)
  (bss Fence.wide (n - 1) trivial rfl (by omega) (w.heap.size + 4) w.heap.size _ c xs zl _ (by simp; omega) (by simp; omega) (World.cell?_alloc_at _ _ _ _ zn.symm) zH) (fun h k => KeepAt.trans h k) (kAb (by simp; omega) (by simp; omega)) (Below.refl _ _) (fun _ => rfl)
  (fun (pre : List (Ix xs)) W => (W.cell? ⟨w.heap.size, 0, none⟩ = some (.slice (some ⟨bb, ob, none⟩) 1 d) /\ (W.cell? ⟨w.heap.size + 1, 0, none⟩ = some (.slice (some ⟨w.heap.size + 2, 0, none⟩) xs.length xs.length) /\ W.frozen? ⟨w.heap.size + 1, 0, none⟩ = false)
    /\ Arr .u64 W (w.heap.size + 2) 193 (foldD xs b (pre.map Subtype.val)).1 /\ W.cell? ⟨w.heap.size + 3, 0, none⟩ = some (.int .u64 (foldD xs b (pre.map Subtype.val)).2) /\ W.frozen? ⟨w.heap.size + 3, 0, none⟩ = false
    /\ W.heap[w.heap.size + 4]? = some (.cells #[.slice p xs.length c] 162)) /\ Below w.heap.size w W)
  (fun _ _ _ => False)
  (OwnFrom.and (Own.from (fun s A B row m hg' hr => ⟨cell_kept m.1 hg' hr, ⟨cell_kept m.2.1.1 hg' hr, (frozen_kept m.2.1.1 hg' hr).trans m.2.1.2⟩, (grownBy_keeps_cells hg' hr m.2.2.1 rfl).trans m.2.2.1, cell_kept m.2.2.2.1 hg' hr, (frozen_kept m.2.2.2.1 hg' hr).trans m.2.2.2.2.1, (grownBy_keeps_cells hg' hr m.2.2.2.2.2 rfl).trans m.2.2.2.2.2⟩) _) (ownFrom_below (Nat.le_refl _) (by simp; omega)))
  (fun _ _ _ _ _ m _ _ => m)
  ⟨⟨cal _ c0, ⟨cal _ c1, fal _ c1 zt⟩, (ho0 _ _ _ (by omega)).trans c2, cal _ c3.1, fal _ c3.1 c3.2, by rw [<- zn]; exact heap_alloc_new _ _⟩, ze⟩
  ?a1 ?assign ?body ?done ?stop
 case assign =>
  intro l x W K hK;dsimp only [eBd]
  gi_wp2
  exact hK
 case body =>
  rintro l pre ix W ⟨⟨z7, ⟨g, h8⟩, h9, h5, z8, hM⟩, hB⟩ yf;have zE := ix.2;generalize hV : ix.1 = i at *;have zS := hid hV;obtain ⟨zj, yc, zF⟩ := hx.out (pre.map Subtype.val);have zp : xs[i]?.getD 0 < B9 := gDl zs.out i;have z4 : Hid (foldD xs b ((pre ++ [ix]).map Subtype.val) = stepD xs b (foldD xs b (pre.map Subtype.val)) i) := by
   unfold Hid; rw [List.map_append, List.map_cons, List.map_nil, fDs, hV]
  generalize foldD xs b (pre.map Subtype.val) = s at *;obtain ⟨so, sr⟩ := s;have zD : i < so.length := by rw [zj]; exact zE
  obtain ⟨G, h7⟩ := zex ((sr : Int) : Int);generalize zo : ((xs[i]?.getD 0 : Nat) : Int) = xz;obtain ⟨bz, hT⟩ := zex ((b : Int) : Int);simp only [<- h7] at h5;have hG := zcq hB hg t;rw [<- hT] at hG;have b1 : 0 <= G /\ G < bz /\ 0 < bz /\ bz < 1000000000 /\ 0 <= xz /\ xz < 1000000000 := by unfold B9 at zp zd; simp only at zF; omega
  have h6 := h9.cell i zD;have zg := h9.frozen i;have hl := hid h7;have z5 := hid zo;have z3 := hid hT;clear hV h7 zo hT zj;gi_wp2_with fail;obtain ⟨q, hq⟩ := zex (G * 1000000000 + xz : Int);have b2 : 0 <= q /\ q <= 18446744073709551615 := by omega
  rw [<- hq];have HQ := hid hq;clear hq;obtain ⟨qq, hW⟩ := zex (q.tdiv bz : Int);obtain ⟨rr, zJ⟩ := zex (q.tmod bz : Int);have zN : ¬ bz = 0 := by omega
  have zP : 0 <= qq /\ qq <= q := by
   rw [hW];exact ⟨Int.tdiv_nonneg b2.1 (by omega), by rw [Int.tdiv_eq_ediv_of_nonneg b2.1]; exact Int.ediv_le_self _ b2.1⟩
  have yh : IntKind.u64.wrap (q.tdiv bz) = q.tdiv bz := by
   rw [<- hW];simp [IntKind.wrap, IntKind.bits, IntKind.signed];omega
  generalize C : W.setCell ⟨w.heap.size + 1 + 1 + 1, 0, none⟩ (Value.int .u64 q) = W';have d0 : W'.cell? ⟨w.heap.size, 0, none⟩ = some (.slice (some ⟨bb, ob, none⟩) 1 d) := by rw [<- C, World.cell?_setCell_other _ _ _ _ (by simp)]; exact z7
  have d1 : W'.cell? ⟨w.heap.size + 1, 0, none⟩ = some (.slice (some ⟨w.heap.size + 2, 0, none⟩) xs.length xs.length) := by rw [<- C, World.cell?_setCell_other _ _ _ _ (by simp)]; exact g
  have d2 : W'.cell? ⟨w.heap.size + 2, i, none⟩ = some (.int .u64 (so[i] : Nat)) := by rw [<- C, World.cell?_setCell_other _ _ _ _ (by simp)]; exact h6
  have zu : W'.frozen? ⟨w.heap.size + 2, i, none⟩ = false := by rw [<- C, World.frozen?_setCell]; exact zg
  have d3 : W'.cell? ⟨w.heap.size + 3, 0, none⟩ = some (.int .u64 q) := by rw [<- C]; exact World.cell?_setCell_same' _ _ _ (by rw [show w.heap.size + 1 + 1 + 1 = w.heap.size + 3 by omega, h5]; rfl)
  have hL : W'.frozen? ⟨w.heap.size + 3, 0, none⟩ = false := by rw [<- C, World.frozen?_setCell]; exact z8
  have d4 : W'.cell? ⟨bb, ob, none⟩ = some (.int .u64 bz) := by rw [<- C, World.cell?_setCell_other _ _ _ _ (by simp only [ne_eq, Addr.mk.injEq, not_and]; omega)]; exact hG
  have hJ := hid C;clear C;refine wa0 (fun k v => v = match k with
   | 0 => .slice (some ⟨w.heap.size + 2, 0, none⟩) xs.length xs.length | 1 => .int .i64 i | 2 => .int .u64 q | 3 => .slice (some ⟨bb, ob, none⟩) 1 d | 4 => .pointer (some ⟨bb, ob, none⟩) | 5 => .int .u64 bz | 6 => .int .u64 qq
   | 7 => .int .u64 q | 8 => .slice (some ⟨bb, ob, none⟩) 1 d | 9 => .pointer (some ⟨bb, ob, none⟩) | 10 => .int .u64 bz | 11 => .int .u64 rr | 12 => .pointer (some ⟨w.heap.size + 2, i, none⟩) | _ => undef)
   (fun S X => X = (if S.getD 14 false then (W'.drew.setCell ⟨w.heap.size + 2, i, none⟩ (.int .u64 qq)).setCell ⟨w.heap.size + 3, 0, none⟩ (.int .u64 rr) else if S.getD 13 false then W'.drew.setCell ⟨w.heap.size + 2, i, none⟩ (.int .u64 qq) else W'.drew))
   (by kernel_rfl) (by kernel_rfl) (by simp) ?_ ?_
  ·intro S N X k o U hk Y R M
   have Z := ga0 S;have Q : S.getD 14 false = false := by
    rcases Nat.lt_or_ge k 14 with zi | zi
    ·refine Bool.eq_false_iff.2 fun h => ?_
     have r := fun e he => R.closed 14 _ rfl h e he;have := r ⟨k, .phase⟩ (by
      rcases k with _|_|_|_|_|_|_|_|_|_|_|_|_|_|k <;> first | (exfalso; omega) | simp) rfl
     rw [gDf hk] at this;cases this
    ·obtain rfl : k = 14 := by
      have := (Array.getElem?_eq_some_iff.1 U).1;simp at this;omega
     exact gDf hk
   rw [if_neg (by rw [Q]; simp)] at M;have x0 : X.cell? ⟨w.heap.size, 0, none⟩ = some (.slice (some ⟨bb, ob, none⟩) 1 d) := by rw [M]; split; rw [World.cell?_setCell_other _ _ _ _ (by simp)]; exact d0; exact d0
   have x1 : X.cell? ⟨w.heap.size + 1, 0, none⟩ = some (.slice (some ⟨w.heap.size + 2, 0, none⟩) xs.length xs.length) := by rw [M]; split; rw [World.cell?_setCell_other _ _ _ _ (by simp)]; exact d1; exact d1
   have x3 : X.cell? ⟨w.heap.size + 3, 0, none⟩ = some (.int .u64 q) := by rw [M]; split; rw [World.cell?_setCell_other _ _ _ _ (by simp)]; exact d3; exact d3
   have yj : X.frozen? ⟨w.heap.size + 3, 0, none⟩ = false := by rw [M]; split; rw [World.frozen?_setCell]; exact hL; exact hL
   have x4 : X.cell? ⟨bb, ob, none⟩ = some (.int .u64 bz) := by rw [M]; split; rw [World.cell?_setCell_other _ _ _ _ (by simp only [ne_eq, Addr.mk.injEq, not_and]; omega)]; exact d4; exact d4
   have o3 := R.old 3 (by intro j oj L; rcases j with _|_|_|_|_|_|_|_|_|_|_|_|_|_|_|j <;> first | (injection L with L; subst L; simp) | exact absurd L (by simp));have o4 := R.old 4 (by intro j oj L; rcases j with _|_|_|_|_|_|_|_|_|_|_|_|_|_|_|j <;> first | (injection L with L; subst L; simp) | exact absurd L (by simp));have o6 := R.old 6 (by intro j oj L; rcases j with _|_|_|_|_|_|_|_|_|_|_|_|_|_|_|j <;> first | (injection L with L; subst L; simp) | exact absurd L (by simp));have o7 := R.old 7 (by intro j oj L; rcases j with _|_|_|_|_|_|_|_|_|_|_|_|_|_|_|j <;> first | (injection L with L; subst L; simp) | exact absurd L (by simp));replace o3 : N.eval (.tmp 3) = .pointer (some ⟨w.heap.size, 0, none⟩) := o3;replace o4 : N.eval (.tmp 4) = .pointer (some ⟨w.heap.size + 1, 0, none⟩) := o4;replace o6 : N.eval (.tmp 6) = .pointer (some ⟨w.heap.size + 3, 0, none⟩) := o6;replace o7 : N.eval (.tmp 7) = .int .i64 i := o7;rcases k with _|_|_|_|_|_|_|_|_|_|_|_|_|_|_|k
   ·injection U with U; subst U
    refine ⟨rfl, wIv (w' := X) (by intro c V; cases V) (by intro c V; cases V) ?_ ⟨_, rfl, rfl, by rw [Z 0 14 (by omega), Z 0 13 (by omega), if_neg (by rw [Q]; simp)]; exact M⟩⟩;clear Y R Z Q M;have ec : N.eval (.const (.int .i64 0)) = .int .i64 0 := rfl;generalize N.eval = ρ at *;simp [execOp, go_sem, *]
   ·injection U with U; subst U
    refine ⟨rfl, wIv (w' := X) (by intro c V; cases V) (by intro c V; cases V) ?_ ⟨_, rfl, rfl, by rw [Z 1 14 (by omega), Z 1 13 (by omega), if_neg (by rw [Q]; simp)]; exact M⟩⟩;clear Y R Z Q M;have ec : N.eval (.const (.int .i64 0)) = .int .i64 0 := rfl;generalize N.eval = ρ at *;simp [execOp, go_sem, *]
   ·injection U with U; subst U
    refine ⟨rfl, wIv (w' := X) (by intro c V; cases V) (by intro c V; cases V) ?_ ⟨_, rfl, rfl, by rw [Z 2 14 (by omega), Z 2 13 (by omega), if_neg (by rw [Q]; simp)]; exact M⟩⟩;clear Y R Z Q M;have ec : N.eval (.const (.int .i64 0)) = .int .i64 0 := rfl;generalize N.eval = ρ at *;simp [execOp, go_sem, *]
   ·injection U with U; subst U
    refine ⟨rfl, wIv (w' := X) (by intro c V; cases V) (by intro c V; cases V) ?_ ⟨_, rfl, rfl, by rw [Z 3 14 (by omega), Z 3 13 (by omega), if_neg (by rw [Q]; simp)]; exact M⟩⟩;clear Y R Z Q M;have ec : N.eval (.const (.int .i64 0)) = .int .i64 0 := rfl;generalize N.eval = ρ at *;simp [execOp, go_sem, *]
   ·injection U with U; subst U
    have zX := R.has 3 _ 36 rfl rfl (Y ⟨3, .data⟩ (by simp) rfl);refine ⟨rfl, wIv (w' := X) (by intro c V; cases V) (by intro c V; cases V) ?_ ⟨_, rfl, rfl, by rw [Z 4 14 (by omega), Z 4 13 (by omega), if_neg (by rw [Q]; simp)]; exact M⟩⟩;clear Y R Z Q M;have ec : N.eval (.const (.int .i64 0)) = .int .i64 0 := rfl;generalize N.eval = ρ at *;simp [execOp, go_sem, *]
   ·injection U with U; subst U
    have zY := R.has 4 _ 37 rfl rfl (Y ⟨4, .data⟩ (by simp) rfl);refine ⟨rfl, wIv (w' := X) (by intro c V; cases V) (by intro c V; cases V) ?_ ⟨_, rfl, rfl, by rw [Z 5 14 (by omega), Z 5 13 (by omega), if_neg (by rw [Q]; simp)]; exact M⟩⟩;clear Y R Z Q M;have ec : N.eval (.const (.int .i64 0)) = .int .i64 0 := rfl;generalize N.eval = ρ at *;simp [execOp, go_sem, *]
   ·injection U with U; subst U
    have zW := R.has 2 _ 35 rfl rfl (Y ⟨2, .data⟩ (by simp) rfl);have zZ := R.has 5 _ 38 rfl rfl (Y ⟨5, .data⟩ (by simp) rfl);refine ⟨rfl, wIv (w' := X) (by intro c V; cases V) (by intro c V; cases V) ?_ ⟨_, rfl, rfl, by rw [Z 6 14 (by omega), Z 6 13 (by omega), if_neg (by rw [Q]; simp)]; exact M⟩⟩;clear Y R Z Q M;have ec : N.eval (.const (.int .i64 0)) = .int .i64 0 := rfl;generalize N.eval = ρ at *;simp [execOp, go_sem, *]
   ·injection U with U; subst U
    refine ⟨rfl, wIv (w' := X) (by intro c V; cases V) (by intro c V; cases V) ?_ ⟨_, rfl, rfl, by rw [Z 7 14 (by omega), Z 7 13 (by omega), if_neg (by rw [Q]; simp)]; exact M⟩⟩;clear Y R Z Q M;have ec : N.eval (.const (.int .i64 0)) = .int .i64 0 := rfl;generalize N.eval = ρ at *;simp [execOp, go_sem, *]
   ·injection U with U; subst U
    refine ⟨rfl, wIv (w' := X) (by intro c V; cases V) (by intro c V; cases V) ?_ ⟨_, rfl, rfl, by rw [Z 8 14 (by omega), Z 8 13 (by omega), if_neg (by rw [Q]; simp)]; exact M⟩⟩;clear Y R Z Q M;have ec : N.eval (.const (.int .i64 0)) = .int .i64 0 := rfl;generalize N.eval = ρ at *;simp [execOp, go_sem, *]
   ·injection U with U; subst U
    have y2 := R.has 8 _ 41 rfl rfl (Y ⟨8, .data⟩ (by simp) rfl);refine ⟨rfl, wIv (w' := X) (by intro c V; cases V) (by intro c V; cases V) ?_ ⟨_, rfl, rfl, by rw [Z 9 14 (by omega), Z 9 13 (by omega), if_neg (by rw [Q]; simp)]; exact M⟩⟩;clear Y R Z Q M;have ec : N.eval (.const (.int .i64 0)) = .int .i64 0 := rfl;generalize N.eval = ρ at *;simp [execOp, go_sem, *]
   ·injection U with U; subst U
    have y3 := R.has 9 _ 42 rfl rfl (Y ⟨9, .data⟩ (by simp) rfl);refine ⟨rfl, wIv (w' := X) (by intro c V; cases V) (by intro c V; cases V) ?_ ⟨_, rfl, rfl, by rw [Z 10 14 (by omega), Z 10 13 (by omega), if_neg (by rw [Q]; simp)]; exact M⟩⟩;clear Y R Z Q M;have ec : N.eval (.const (.int .i64 0)) = .int .i64 0 := rfl;generalize N.eval = ρ at *;simp [execOp, go_sem, *]
   ·injection U with U; subst U
    have y1 := R.has 7 _ 40 rfl rfl (Y ⟨7, .data⟩ (by simp) rfl);have y4 := R.has 10 _ 43 rfl rfl (Y ⟨10, .data⟩ (by simp) rfl);refine ⟨rfl, wIv (w' := X) (by intro c V; cases V) (by intro c V; cases V) ?_ ⟨_, rfl, rfl, by rw [Z 11 14 (by omega), Z 11 13 (by omega), if_neg (by rw [Q]; simp)]; exact M⟩⟩;clear Y R Z Q M;have ec : N.eval (.const (.int .i64 0)) = .int .i64 0 := rfl;generalize N.eval = ρ at *;simp [execOp, go_sem, *]
   ·injection U with U; subst U
    have zU := R.has 0 _ 33 rfl rfl (Y ⟨0, .data⟩ (by simp) rfl);have zV := R.has 1 _ 34 rfl rfl (Y ⟨1, .data⟩ (by simp) rfl);refine ⟨rfl, wIv (w' := X) (by intro c V; cases V) (by intro c V; cases V) ?_ ⟨_, rfl, rfl, by rw [Z 12 14 (by omega), Z 12 13 (by omega), if_neg (by rw [Q]; simp)]; exact M⟩⟩;clear Y R Z Q M;have ec : N.eval (.const (.int .i64 0)) = .int .i64 0 := rfl;generalize N.eval = ρ at *;simp [execOp, go_sem, *]
   ·injection U with U; subst U
    have y6 := R.has 12 _ 45 rfl rfl (Y ⟨12, .data⟩ (by simp) rfl);have y0 := R.has 6 _ 39 rfl rfl (Y ⟨6, .data⟩ (by simp) rfl);have hh := gDf hk;rw [if_neg (by rw [hh]; simp)] at M;have x2 : X.cell? ⟨w.heap.size + 2, i, none⟩ = some (.int .u64 (so[i] : Nat)) := by rw [M]; exact d2
    have yi : X.frozen? ⟨w.heap.size + 2, i, none⟩ = false := by rw [M]; exact zu
    refine ⟨rfl, wIs (w' := X.setCell ⟨w.heap.size + 2, i, none⟩ (.int .u64 qq)) (by intro c V; cases V) (by intro c V; cases V) ?_ ⟨_, rfl, rfl, by rw [Z 13 14 (by omega), if_neg (by rw [Q]; simp), if_pos (gDn hk), M]⟩⟩;clear Y R Z Q M;generalize N.eval = ρ at *;simp [execOp, go_sem, *]
   ·injection U with U; subst U
    have y5 := R.has 11 _ 44 rfl rfl (Y ⟨11, .data⟩ (by simp) rfl);have hh := Y ⟨13, .chain⟩ (by simp) rfl;rw [if_pos hh] at M;refine ⟨rfl, wIs (w' := X.setCell ⟨w.heap.size + 3, 0, none⟩ (.int .u64 rr)) (by intro c V; cases V) (by intro c V; cases V) ?_ ⟨_, rfl, rfl, by rw [if_pos (gDn hk), M]⟩⟩;clear Y R Z Q M;generalize N.eval = ρ at *;simp [execOp, go_sem, *]
   ·exact absurd U (by simp)
  ·intro S N X H R M
   rw [if_pos (H 14 (by simp))] at M;have hw := R.defers;obtain ⟨tm, df⟩ := N;simp only at hw;subst hw;gi_wp2_with fail;have hA : Arr .u64 (W'.drew.setCell ⟨w.heap.size + 2, i, none⟩ (.int .u64 qq)) (w.heap.size + 2) 193 (so.set i ((sr * B9 + xs[i]?.getD 0) / b)) := by
    refine Arr.set ?_ i _ ?_
    ·rw [<- hJ.out]
     show Arr .u64 (W.setCell ⟨w.heap.size + 1 + 1 + 1, 0, none⟩ (.int .u64 q)) _ _ _;unfold Arr;rw [heap_setCell_other _ _ _ _ (by simp)];exact h9
    ·rw [hW, Int.tdiv_eq_ediv_of_nonneg b2.1, HQ.out, hl.out, <- z5.out, z3.out]
     unfold B9;simp
   have hR : ((sr * B9 + xs[i]?.getD 0) % b : Nat) = rr := by
    rw [zJ, Int.tmod_eq_emod_of_nonneg b2.1, HQ.out, hl.out, <- z5.out, z3.out];unfold B9;simp
   have hO : X = ((W.setCell ⟨w.heap.size + 1 + 1 + 1, 0, none⟩ (.int .u64 q)).drew.setCell ⟨w.heap.size + 2, i, none⟩ (.int .u64 qq)).setCell ⟨w.heap.size + 3, 0, none⟩ (.int .u64 rr) := by rw [M, <- hJ.out]
   have ht : Below w.heap.size W X := by
    rw [hO];have g1 : Below w.heap.size W (W.setCell ⟨w.heap.size + 1 + 1 + 1, 0, none⟩ (.int .u64 q)) := (Below.refl _ W).setCell (by simp; omega) _;have g2 : Below w.heap.size W (W.setCell ⟨w.heap.size + 1 + 1 + 1, 0, none⟩ (.int .u64 q)).drew := g1.trans ((bdN _ 1).mono (by have := hB.size; simp [World.setCell]; omega));exact (g2.setCell (by simp) _).setCell (by simp) _
   have zA : KeepsOthers W X := by
    rw [hO];exact (((KeepsOthers.setCell _ _ _).trans (KeepsOthers.drew _)).trans (KeepsOthers.setCell _ _ _)).trans (KeepsOthers.setCell _ _ _)
   have z6 : X.heap[w.heap.size + 4]? = W.heap[w.heap.size + 4]? := by
    rw [hO, heap_setCell_other _ _ _ _ (by simp), heap_setCell_other _ _ _ _ (by simp)];exact heap_setCell_other _ _ _ _ (by simp)
   refine ⟨zA, ⟨ht, z6⟩, ⟨?_, ⟨?_, ?_⟩, ?_, ?_, ?_, z6.trans hM⟩, hB.trans ht⟩
   ·rw [M, World.cell?_setCell_other _ _ _ _ (by simp), World.cell?_setCell_other _ _ _ _ (by simp)]; exact d0
   ·rw [M, World.cell?_setCell_other _ _ _ _ (by simp), World.cell?_setCell_other _ _ _ _ (by simp)]; exact d1
   ·rw [M, World.frozen?_setCell, World.frozen?_setCell]
    show W'.frozen? _ = false;rw [<- hJ.out, World.frozen?_setCell]; exact h8
   ·rw [z4.out, M]
    unfold Arr;rw [heap_setCell_other _ _ _ _ (by simp)];exact hA
   ·rw [z4.out, M]
    show _ = some (Value.int .u64 ((((sr * B9 + xs[i]?.getD 0) % b : Nat)) : Int));rw [hR];exact World.cell?_setCell_same' _ _ _ (by rw [World.cell?_setCell_other _ _ _ _ (by simp)]; show (W'.cell? _).isSome = true; rw [d3]; rfl)
   ·rw [M, World.frozen?_setCell, World.frozen?_setCell]; exact hL
 case done =>
  rintro D ys W R zK ⟨⟨z7, ⟨g, h8⟩, h9, h5, z8, hM⟩, hB⟩ hK;gi_wp2_with fail;rw [zK] at h9 h5;obtain ⟨hE, hF⟩ := z2.out;obtain ⟨zh, ya, yb⟩ := hx.out (bwd xs.length xs.length);generalize foldD xs b (bwd xs.length xs.length) = s at *;obtain ⟨so, sr⟩ := s;simp only at *;have hN := h9.rd (by rw [zh]; unfold maxLen; omega);rw [zh] at hN;obtain ⟨G, h7⟩ := zex ((sr : Int) : Int);simp only [<- h7] at h5;have z0 := hid hE;have z1 := hid hF;have hl := hid h7;clear hE hF h7;have yg : (W.alloc (Obj.cells #[Value.int .u64 G] 193)).drew.cell? ⟨W.heap.size, 0, none⟩ = some (.int .u64 G) := by
   show (W.alloc (Obj.cells #[Value.int .u64 G] 193)).cell? ⟨W.heap.size, 0, none⟩ = some (.int .u64 G);rw [World.cell?_alloc_at _ _ _ _ rfl]; rfl
  have y8 : w.heap.size + 4 < W.heap.size := (Array.getElem?_eq_some_iff.1 hM).1;have z : w.heap.size + 1 < W.heap.size := by omega
  have y7 : w.heap.size + 3 < W.heap.size := by omega
  refine wa0 (fun k v => match k with
   | 0 => v = .slice (some ⟨w.heap.size + 2, 0, none⟩) xs.length xs.length
   | 1 => Rd .u64 (W.alloc (.cells #[.int .u64 G] 193)) v (lm B9 (a / b)) | 2 => v = .int .u64 G | 3 => v = .slice (some ⟨W.heap.size, 0, none⟩) 1 1
   | 4 => Rd .u64 (W.alloc (.cells #[.int .u64 G] 193)) v (lm B9 (a % b)) | 6 => Rd .u64 (W.alloc (.cells #[.int .u64 G] 193)) v (lm B9 (a % b)) | _ => v = undef)
   (fun S X => ∃ X0, X0 = (if S.getD 3 false then W.drew.alloc (.cells #[.int .u64 G] 193) else W.drew) /\ (if S.getD 5 false then ∃ v, Rd .u64 (W.alloc (.cells #[.int .u64 G] 193)) v (lm B9 (a / b)) /\ X = X0.setCell ⟨w.heap.size + 1, 0, none⟩ v else X = X0))
   (by kernel_rfl) (by kernel_rfl) ⟨_, rfl, by simp⟩ ?_ ?_
  ·intro S N X k o U hk Y R M
   have Z := ga0 S;have o4 := R.old 4 (by intro j oj L; rcases j with _|_|_|_|_|_|_|j <;> first | (injection L with L; subst L; simp) | exact absurd L (by simp));have o6 := R.old 6 (by intro j oj L; rcases j with _|_|_|_|_|_|_|j <;> first | (injection L with L; subst L; simp) | exact absurd L (by simp));replace o4 : N.eval (.tmp 4) = .pointer (some ⟨w.heap.size + 1, 0, none⟩) := o4;replace o6 : N.eval (.tmp 6) = .pointer (some ⟨w.heap.size + 3, 0, none⟩) := o6;obtain ⟨X0, O, I⟩ := M;have r := fun j oj (L : _ = some oj) h e he hb => R.closed j oj L h e he hb;have J : k < 5 -> S.getD 5 false = false := fun J => Bool.eq_false_iff.2 fun h => by
    have h4 := R.closed 5 _ rfl h ⟨4, .chain⟩ (by simp) rfl;have h3 := R.closed 4 _ rfl h4 ⟨3, .data⟩ (by simp) rfl;have h2 := R.closed 3 _ rfl h3 ⟨2, .data⟩ (by simp) rfl;have h1 := R.closed 5 _ rfl h ⟨1, .data⟩ (by simp) rfl;have h0 := R.closed 5 _ rfl h ⟨0, .phase⟩ (by simp) rfl;have E := gDf hk;rcases k with _|_|_|_|_|k
    ·rw [h0] at E; cases E
    ·rw [h1] at E; cases E
    ·rw [h2] at E; cases E
    ·rw [h3] at E; cases E
    ·rw [h4] at E; cases E
    ·omega
   have x1 : X0.cell? ⟨w.heap.size + 1, 0, none⟩ = some (.slice (some ⟨w.heap.size + 2, 0, none⟩) xs.length xs.length) := by
    rw [O]; split; exact cal _ g; exact g
   have hZ : X0.frozen? ⟨w.heap.size + 1, 0, none⟩ = false := by
    rw [O]; split; exact fal _ g h8; exact h8
   have x3 : X0.cell? ⟨w.heap.size + 3, 0, none⟩ = some (.int .u64 G) := by
    rw [O]; split; exact cal _ h5; exact h5
   have zL : Rd .u64 X0 (.slice (some ⟨w.heap.size + 2, 0, none⟩) xs.length xs.length) so := by
    rw [O]; split; exact hN.alloc _; exact hN
   have zq : ∀ v l, Rd .u64 X0 v l -> Rd .u64 (W.alloc (.cells #[.int .u64 G] 193)) v l := by
    intro v l; rw [O]; split; exact fun h => h; exact fun h => (show Rd .u64 W v l from h).alloc _
   rcases k with _|_|_|_|_|_|_|k
   ·injection U with U; subst U
    rw [J (by omega), if_neg (by simp)] at I;subst I;refine ⟨rfl, wIv (w' := X) (by intro c V; cases V) (by intro c V; cases V) ?_ ⟨_, rfl, rfl, X, by rw [Z 0 3 (by omega)]; exact O, by rw [Z 0 5 (by omega), J (by omega), if_neg (by simp)]⟩⟩;clear Y R Z J O r;generalize N.eval = ρ at *;simp [execOp, go_sem, *]
   ·injection U with U; subst U
    rw [J (by omega), if_neg (by simp)] at I;subst I;have zv := R.has 0 _ 46 rfl rfl (Y ⟨0, .data⟩ (by simp) rfl);simp only at zv;refine ⟨rfl, wIe (f := 137) (args := #[.slice (some ⟨w.heap.size + 2, 0, none⟩) xs.length xs.length]) (by intro c V; cases V) ?_ ?_⟩
    ·have ef : N.eval (.func 137) = .func (.func 137) #[] #[] := rfl
     clear Y R Z J O r;generalize N.eval = ρ at *;simp [execOp, go_sem, *]
    ·refine (tay _ _ _ zL).mono ?_
     rintro e w9 ⟨v9, rfl, hY, rfl⟩;exact ⟨v9, rfl, v9, z0.out ▸ zq _ _ hY, rfl, X, by rw [Z 1 3 (by omega)]; exact O, by rw [Z 1 5 (by omega), J (by omega), if_neg (by simp)]⟩
   ·injection U with U; subst U
    rw [J (by omega), if_neg (by simp)] at I;subst I;refine ⟨rfl, wIv (w' := X) (by intro c V; cases V) (by intro c V; cases V) ?_ ⟨_, rfl, rfl, X, by rw [Z 2 3 (by omega)]; exact O, by rw [Z 2 5 (by omega), J (by omega), if_neg (by simp)]⟩⟩;clear Y R Z J O r;generalize N.eval = ρ at *;simp [execOp, go_sem, *]
   ·injection U with U; subst U
    rw [J (by omega), if_neg (by simp)] at I;subst I;rw [gDf hk, if_neg (by simp)] at O;have zw := R.has 2 _ 48 rfl rfl (Y ⟨2, .data⟩ (by simp) rfl);simp only at zw;refine ⟨rfl, wIv (w' := X.alloc (.cells #[.int .u64 G] 193)) (v := .slice (some ⟨X.heap.size, 0, none⟩) 1 1) (by intro c V; cases V) (by intro c V; cases V) ?_ ⟨_, by rw [O]; rfl, rfl, X.alloc (.cells #[.int .u64 G] 193), by rw [gDn hk, if_pos rfl, O], by rw [Z 3 5 (by omega), J (by omega), if_neg (by simp)]⟩⟩;clear Y R Z J O r;generalize N.eval = ρ at *;simp [execOp, go_sem, *]
   ·injection U with U; subst U
    rw [J (by omega), if_neg (by simp)] at I;subst I;have h3 := Y ⟨3, .data⟩ (by simp) rfl;rw [h3, if_pos rfl] at O;have zx := R.has 3 _ 49 rfl rfl h3;simp only at zx;refine ⟨rfl, wIe (f := 137) (args := #[.slice (some ⟨W.heap.size, 0, none⟩) 1 1]) (by intro c V; cases V) ?_ ?_⟩
    ·have ef : N.eval (.func 137) = .func (.func 137) #[] #[] := rfl
     clear Y R Z J O r;generalize N.eval = ρ at *;simp [execOp, go_sem, *]
    ·refine (tay _ _ [sr] (roe _ _ sr G hl.out ?_)).mono ?_
     ·rw [O]; show (W.alloc (.cells #[.int .u64 G] 193)).cell? _ = _; rw [World.cell?_alloc_at _ _ _ _ rfl]; rfl
     rintro e w9 ⟨v9, rfl, hY, rfl⟩;exact ⟨v9, rfl, v9, z1.out ▸ zq _ _ hY, rfl, X, by rw [Z 4 3 (by omega), h3, if_pos rfl]; exact O, by rw [Z 4 5 (by omega), J (by omega), if_neg (by simp)]⟩
   ·injection U with U; subst U
    rw [gDf hk, if_neg (by simp)] at I;subst I;have hf := R.has 1 _ 47 rfl rfl (Y ⟨1, .data⟩ (by simp) rfl);simp only at hf;generalize zQ : N.eval (.tmp 47) = v47 at hf;have hz := hf;obtain ⟨p9, c9, rfl, zC, zG, zm⟩ := hf.open;refine ⟨rfl, wIs (w' := X.setCell ⟨w.heap.size + 1, 0, none⟩ (.slice p9 (lm B9 (a / b)).length c9)) (by intro c V; cases V) (by intro c V; cases V) ?_ ⟨_, rfl, rfl, X, by rw [Z 5 3 (by omega)]; exact O, by rw [gDn hk, if_pos rfl]; exact ⟨_, hz, rfl⟩⟩⟩;clear Y R Z J O r zm hf hz;generalize N.eval = ρ at *;simp [execOp, go_sem, *]
   ·injection U with U; subst U
    have zy := R.has 4 _ 50 rfl rfl (Y ⟨4, .data⟩ (by simp) rfl);refine ⟨rfl, wIv (w' := X) (by intro c V; cases V) (by intro c V; cases V) (v := N.eval (.tmp 50)) ?_ ⟨_, zy, rfl, X0, by rw [Z 6 3 (by omega)]; exact O, by rw [Z 6 5 (by omega)]; exact I⟩⟩;rfl
   ·exact absurd U (by simp)
  ·intro S N X H R M
   have o4 := R.old 4 (by intro j oj L; rcases j with _|_|_|_|_|_|_|j <;> first | (injection L with L; subst L; simp) | exact absurd L (by simp));replace o4 : N.eval (.tmp 4) = .pointer (some ⟨w.heap.size + 1, 0, none⟩) := o4;have e5 := R.has 6 _ 5 rfl rfl (H 6 (by simp));simp only at e5;have hw : N.defers = [{ target := .collected D, args := #[] }] := R.defers;obtain ⟨X0, O, I⟩ := M;rw [H 3 (by simp), if_pos rfl] at O;rw [H 5 (by simp), if_pos rfl] at I;obtain ⟨v, hv, I⟩ := I;clear R H;have hu : X.heap[D]? = some (.deferred (some [])) := by
    have zz : D < W.heap.size := (Array.getElem?_eq_some_iff.1 hK).1;rw [I, O, heap_setCell_other _ _ _ _ (by simp at R ⊢; omega)];exact (ho0 _ _ _ (by exact zz)).trans hK
   have ht : Below w.heap.size w X := by
    rw [I, O];exact (((hB.trans ((bdN W 1).mono (by omega))).alloc (by simp; omega) _).setCell (by simp) _)
   have zB : X.cell? ⟨w.heap.size + 1, 0, none⟩ = some v := by
    rw [I];exact World.cell?_setCell_same' _ _ _ (by rw [O]; show ((W.alloc _).cell? _).isSome = true; rw [cal _ g]; rfl)
   have z9 : ∀ v' l, Rd .u64 (W.alloc (.cells #[.int .u64 G] 193)) v' l -> Rd .u64 X v' l := by
    intro v' l h;rw [I, O];exact RdC.set_other (w := W.drew.alloc (.cells #[.int .u64 G] 193)) (RdC.drewN h 1) (c := .slice (some ⟨w.heap.size + 2, 0, none⟩) xs.length xs.length) (cal _ g) (by simp)
   have zT := hid I;clear I;gi_wp2_with fail;show LeavesInM _ _ _ _ _ _ N.defers _ _;rw [hw];refine ⟨by simp, .inl ⟨_, _, rfl, run_takeDeferred hu, ?_⟩⟩;have Z : w.heap.size + 1 ≠ D := by simp at R; omega
   have za : (X.putObj D (Obj.deferred none)).cell? ⟨w.heap.size + 1, 0, none⟩ = some v := (World.cell?_of_block (World.putObj_heap_other Z)).trans zB;generalize zI : N.eval (.tmp 5) = v5 at e5;obtain ⟨p9, c9, rfl, zC, zG, zm⟩ := hv.open;refine ⟨.tuple #[.slice p9 (lm B9 (a / b)).length c9, v5], ?_, _, rfl, ⟨_, _, rfl, rpt (z9 _ _ hv) hu rfl _, rpt (z9 _ _ e5) hu rfl _⟩, ?_⟩
   ·have t4 : N.tmps[4]?.getD undef = .pointer (some ⟨w.heap.size + 1, 0, none⟩) := by rw [<- Array.getD_eq_getD_getElem?]; exact o4
    have t5 : N.tmps[5]?.getD undef = v5 := by rw [<- Array.getD_eq_getD_getElem?]; exact zI
    simp [results, Tryz.results132, go_sem, za, t4, t5]
   ·exact ht.trans (belowK_b (w := w) (Nat.le_refl _) X D _ _ (by simp at R; omega) hu rfl rfl)
 case stop =>
  rintro D c pre W _ _ h _;exact h.elim
theorem doe (w : World) (U S : Value) (a b : Nat) (R : Rd .u64 w U (lm B9 a)) (Q : Rd .u64 w S (lm B9 b)) (Y : b <= a) (X : 0 < b) (V : b < B9) (Z : (lm B9 a).length <= 1000000) :
 Calls Tryz.prog 132 #[U, S] w (Ret (QR (a / b) (a % b)) w) :=
 callsIn_wide.1 (doi 6 (Nat.le_refl _) w U S a b R Q Y X V Z)
end Go.Proofs.YtmcbeajdloaliaaGreatDoor
