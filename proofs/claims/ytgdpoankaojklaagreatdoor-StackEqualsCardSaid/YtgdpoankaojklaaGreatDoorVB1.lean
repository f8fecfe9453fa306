import Derived.WalkKit
import Derived.WalkLawsBesides
import Derived.WalkSpells
import Derived.Lib.Hide
import Derived.Deep.QuietTactic
import Derived.BigQuiet
import Derived.Test.YtgdpoankaojklaaGreatDoorProg
import Derived.Test.YtgdpoankaojklaaGreatDoorVN1
/- What memory reads as; the loops over limbs. -/
set_option maxHeartbeats 1000000
set_option maxRecDepth 100000
namespace Go.Proofs.YtgdpoankaojklaaGreatDoor
open Go.RowKit
theorem zcq {B b i : Nat} {w w' : World} {v : Value} (h : Below B w w') (hb : b < B) (e : w.cell? ⟨b, i, none⟩ = some v) : w'.cell? ⟨b, i, none⟩ = some v := (h.cell (p := ⟨b, i, none⟩) hb).trans e
theorem zct {b i : Nat} {w w' : World} {v : Value} (h : Below w.heap.size w w') (e : w.cell? ⟨b, i, none⟩ = some v) : w'.cell? ⟨b, i, none⟩ = some v := (h.cell (p := ⟨b, i, none⟩) (World.block_lt_of_cell? w _ e)).trans e
theorem zput : (∀ {xs : List Value} {i : Nat} (h : i < xs.toArray.size), xs.toArray[i] = xs[i]'(by simpa using h)) /\ (∀ (a : Value) (l : List Value) (h : 0 < (a :: l).length), (a :: l)[0] = a) /\ (∀ (a : Value) (l : List Value) (i : Nat) (h : i + 1 < (a :: l).length), (a :: l)[i + 1] = l[i]'(by simpa using h)) /\ (∀ (l : List Value) (i : Nat) (a : Value), l.toArray.setIfInBounds i a = (l.set i a).toArray) /\ (∀ {x : Value} {xs : List Value} {a : Value}, (x :: xs).set 0 a = a :: xs) /\ ∀ {x : Value} {xs : List Value} {i : Nat} {a : Value}, (x :: xs).set (i + 1) a = x :: xs.set i a := ⟨@List.getElem_toArray Value, @List.getElem_cons_zero Value, @List.getElem_cons_succ Value, @List.setIfInBounds_toArray Value, @List.set_cons_zero Value, @List.set_cons_succ Value⟩
theorem zbt {w v u : World} (h : Below w.heap.size w v) (k : Below v.heap.size v u) : Below w.heap.size w u := h.trans (k.mono h.size)
theorem zal (w : World) (o : Obj) : Below w.heap.size w (w.alloc o) := (Below.refl _ _).alloc (Nat.le_refl _) _
theorem zal2 (w : World) (o p : Obj) : Below w.heap.size w ((w.alloc o).alloc p) := (zal w o).alloc (by simp) _
theorem heap_old (w : World) (o : Obj) (i : Nat) (h : i < w.heap.size) : (w.alloc o).heap[i]? = w.heap[i]? := by
 show (w.heap.push o)[i]? = w.heap[i]?;rw [Array.getElem?_push, if_neg (Nat.ne_of_lt h)]
def RdC (sz : Nat) (w : World) (v : Value) (n : Nat) (cs : List Value) : Prop :=
 ∃ p c, v = .slice p n c /\ n <= c /\ c <= maxLen /\ cs.length = n * sz /\
  (cs ≠ [] -> ∃ b off, p = some ⟨b, off, none⟩ /\ ∀ (i : Nat) (x : Value), cs[i]? = some x -> w.cell? ⟨b, off + i, none⟩ = some x)
def Rd (k : IntKind) (w : World) (v : Value) (l : List Nat) : Prop := RdC 1 w v l.length (l.map fun x : Nat => Value.int k (x : Int))
def RdI (k : IntKind) (w : World) (v : Value) (l : List Int) : Prop := RdC 1 w v l.length (l.map fun x : Int => Value.int k x)
def RdS (w : World) (v : Value) (l : List ByteArray) : Prop := RdC 1 w v l.length (l.map fun x => Value.string x)
def Same (Φ : Value -> Prop) (w : World) (e : Ending) (w' : World) : Prop := ∃ v, e = .returned v /\ Φ v /\ w = w'
def Drawn (Φ : Value -> Prop) (w : World) (e : Ending) (w' : World) : Prop := ∃ v, e = .returned v /\ Φ v /\ ∃ n, w' = w.drewN n
def Ret (Φ : Value -> World -> Prop) (w : World) (e : Ending) (w' : World) : Prop := ∃ v, e = .returned v /\ Φ v w' /\ Below w.heap.size w w'
theorem below_drewN (w : World) (n : Nat) : Below w.heap.size w (w.drewN n) := ⟨rfl, rfl, rfl, Nat.le_refl _, fun _ _ => rfl⟩
theorem dr_step {w w1 : World} (h : ∃ n, w1 = w.drewN n) (m : Nat) : ∃ n, w1.drewN m = w.drewN n := by
 obtain ⟨n, rfl⟩ := h;exact ⟨n + m, World.drewN_drewN _ _ _⟩
theorem dr_zero (w : World) : ∃ n, w = w.drewN n := ⟨0, rfl⟩
theorem Same.ret {Φ : Value -> Prop} {w : World} {e : Ending} {w' : World} (h : Same Φ w e w') : Ret (fun v _ => Φ v) w e w' := by
 obtain ⟨v, he, hv, rfl⟩ := h;exact ⟨v, he, hv, Below.refl _ _⟩
theorem Drawn.ret {Φ : Value -> Prop} {w : World} {e : Ending} {w' : World} (h : Drawn Φ w e w') : Ret (fun v _ => Φ v) w e w' := by
 obtain ⟨v, he, hv, n, rfl⟩ := h;exact ⟨v, he, hv, below_drewN _ _⟩
theorem RdC.below {sz : Nat} {w w' : World} {v : Value} {n : Nat} {cs : List Value} (h : RdC sz w v n cs) (hb : Below w.heap.size w w') : RdC sz w' v n cs := by
 obtain ⟨p, c, hv, h1, h2, h3, h4⟩ := h;refine ⟨p, c, hv, h1, h2, h3, fun hne => ?_⟩;obtain ⟨b, off, hp, hc⟩ := h4 hne;refine ⟨b, off, hp, fun i x hx => ?_⟩;have := hc i x hx;rw [hb.cell (p := ⟨b, off + i, none⟩) (World.block_lt_of_cell? w _ this)];exact this
theorem RdC.drewN {sz : Nat} {w : World} {v : Value} {n : Nat} {cs : List Value} (h : RdC sz w v n cs) (j : Nat) : RdC sz (w.drewN j) v n cs := h.below (below_drewN w j)
theorem RdC.alloc {sz : Nat} {w : World} {v : Value} {n : Nat} {cs : List Value} (h : RdC sz w v n cs) (o : Obj) : RdC sz (w.alloc o) v n cs :=
 h.below ((Below.refl _ _).alloc (Nat.le_refl _) o)
theorem RdC.nil (sz : Nat) (w : World) (c : Nat) (hc : c <= maxLen) (p : Option Addr) : RdC sz w (.slice p 0 c) 0 [] :=
 ⟨p, c, rfl, Nat.zero_le _, hc, by simp, fun h => absurd rfl h⟩
theorem RdC.nil0 (sz : Nat) (w : World) : RdC sz w (.slice none 0 0) 0 [] := RdC.nil sz w 0 (by decide) none
theorem RdC.set_other {sz : Nat} {w : World} {v : Value} {n : Nat} {cs : List Value} (h : RdC sz w v n cs) {a : Addr} {x c : Value} (hc : w.cell? a = some c) (hne : ∀ y ∈ cs, y ≠ c) : RdC sz (w.setCell a x) v n cs := by
 obtain ⟨p, q, hv, h1, h2, h3, h4⟩ := h;refine ⟨p, q, hv, h1, h2, h3, fun hn => ?_⟩;obtain ⟨b, off, hp, hr⟩ := h4 hn;refine ⟨b, off, hp, fun i y hy => ?_⟩;have := hr i y hy;have hna : a ≠ ⟨b, off + i, none⟩ := fun e => by
  rw [<- e, hc] at this;cases this;exact hne c (List.mem_of_getElem? hy) rfl
 rw [World.cell?_setCell_other _ _ _ _ (by first | exact hna | exact hna.symm)];exact this
def OldV (n : Nat) (v : Value) : Prop := ∀ a l c, v = .slice (some a) l c -> a.block < n
theorem RdC.belowB {sz B : Nat} {w w' : World} {v : Value} {n : Nat} {cs : List Value} (h : RdC sz w v n cs) (hb : Below B w w') (ho : OldV B v) : RdC sz w' v n cs := by
 obtain ⟨p, c, hv, h1, h2, h3, h4⟩ := h;refine ⟨p, c, hv, h1, h2, h3, fun hne => ?_⟩;obtain ⟨b, off, hp, hc⟩ := h4 hne;refine ⟨b, off, hp, fun i x hx => ?_⟩;have h5 := hc i x hx;rw [hb.cell (p := ⟨b, off + i, none⟩) (ho ⟨b, off, none⟩ n c (by rw [hv, hp]))];exact h5
theorem RdC.old {sz : Nat} {w : World} {v : Value} {n : Nat} {cs : List Value} (h : RdC sz w v n cs) (hne : cs ≠ []) : OldV w.heap.size v := by
 obtain ⟨p, c, hv, h1, h2, h3, h4⟩ := h;obtain ⟨b, off, hp, hc⟩ := h4 hne;intro a l c' e;rw [hv, hp] at e;cases e;have h0 := hc 0 (cs.head hne) (by rw [List.head_eq_getElem]; simp);exact World.block_lt_of_cell? w ⟨b, off + 0, none⟩ h0
def FreshV (n : Nat) (v : Value) : Prop := ∀ a l c, v = .slice (some a) l c -> n <= a.block
theorem FreshV.of_owns {w : World} {base e sz : Nat} {v : Value} {n : Nat} {cs : List Value} (h : w.ownsRow base e sz v n cs) : FreshV base v := by
 obtain ⟨h1, h2⟩ := h;rcases h2 with ⟨rfl, h0⟩ | ⟨g, cap, cur, rfl, hb, _⟩
 ·intro a l c e; cases e
 ·intro a l c e; cases e; exact hb
theorem RdC.of_owns {w : World} {base e sz : Nat} {v : Value} {n : Nat} {cs : List Value} (h : w.ownsRow base e sz v n cs) : RdC sz w v n cs := by
 obtain ⟨h1, h2⟩ := h;rcases h2 with ⟨rfl, h0⟩ | ⟨g, cap, cur, rfl, hb, hg, hnc, hcm, hcs, ht⟩
 ·subst h0
  obtain rfl := List.length_eq_zero_iff.1 (by simpa using h1);exact RdC.nil0 _ _
 ·refine ⟨_, cap, rfl, hnc, hcm, h1, fun _ => ⟨g, 0, rfl, fun i x hx => ?_⟩⟩
  have hi : i < cs.length := (List.getElem?_eq_some_iff.1 hx).1;rw [Nat.zero_add, cell_of_row w g i cur e (0, 0) hg];have h3 : (cur.toList.take (n * sz))[i]? = some x := by rw [ht]; exact hx
  rw [List.getElem?_take] at h3;rw [if_pos (by omega)] at h3;simpa using h3
theorem Rd.of_owns {k : IntKind} {w : World} {base e : Nat} {v : Value} {l : List Nat} {cs : List Value} (hcs : cs = l.map fun x : Nat => Value.int k (x : Int))
 (h : w.ownsRow base e 1 v l.length cs) : Rd k w v l := by
 subst hcs; exact RdC.of_owns h
theorem RdI.of_owns {k : IntKind} {w : World} {base e : Nat} {v : Value} {l : List Int} {cs : List Value} (hcs : cs = l.map fun x : Int => Value.int k x)
 (h : w.ownsRow base e 1 v l.length cs) : RdI k w v l := by
 subst hcs; exact RdC.of_owns h
theorem Rd.open {k : IntKind} {w : World} {v : Value} {l : List Nat} (h : Rd k w v l) : ∃ p c, v = .slice p l.length c /\ l.length <= c /\ c <= maxLen /\
 (l ≠ [] -> ∃ b off, p = some ⟨b, off, none⟩ /\ b < w.heap.size /\ ∀ (i : Nat) (hi : i < l.length), w.cell? ⟨b, off + i, none⟩ = some (.int k ((l[i] : Nat) : Int))) := by
 obtain ⟨p, c, hv, h1, h2, h3, h4⟩ := h;refine ⟨p, c, hv, h1, h2, fun hne => ?_⟩;obtain ⟨b, off, hp, hc⟩ := h4 (by simpa using hne);have hcell : ∀ (i : Nat) (hi : i < l.length), w.cell? ⟨b, off + i, none⟩ = some (.int k ((l[i] : Nat) : Int)) := fun i hi => hc i _ (by simp [hi])
 have h0 : 0 < l.length := List.length_pos_iff.2 hne;exact ⟨b, off, hp, World.block_lt_of_cell? w _ (hcell 0 h0), hcell⟩
theorem RdI.open {k : IntKind} {w : World} {v : Value} {l : List Int} (h : RdI k w v l) : ∃ p c, v = .slice p l.length c /\ l.length <= c /\ c <= maxLen /\
 (l ≠ [] -> ∃ b off, p = some ⟨b, off, none⟩ /\ b < w.heap.size /\ ∀ (i : Nat) (hi : i < l.length), w.cell? ⟨b, off + i, none⟩ = some (.int k (l[i]))) := by
 obtain ⟨p, c, hv, h1, h2, h3, h4⟩ := h;refine ⟨p, c, hv, h1, h2, fun hne => ?_⟩;obtain ⟨b, off, hp, hc⟩ := h4 (by simpa using hne);have hcell : ∀ (i : Nat) (hi : i < l.length), w.cell? ⟨b, off + i, none⟩ = some (.int k (l[i])) := fun i hi => hc i _ (by simp [hi])
 have h0 : 0 < l.length := List.length_pos_iff.2 hne;exact ⟨b, off, hp, World.block_lt_of_cell? w _ (hcell 0 h0), hcell⟩
theorem RdC.take {w : World} {p : Option Addr} {n c : Nat} {cs : List Value} (h : RdC 1 w (.slice p n c) n cs) (m : Nat) (hm : m <= n) : RdC 1 w (.slice p m c) m (cs.take m) := by
 obtain ⟨p', c', hv, h1, h2, h3, h4⟩ := h;cases hv;refine ⟨p, c, rfl, by omega, h2, by rw [List.length_take]; omega, fun hne => ?_⟩;obtain ⟨b, off, hp, hc⟩ := h4 (fun e => hne (by rw [e]; simp));refine ⟨b, off, hp, fun i x hx => hc i x ?_⟩;rw [List.getElem?_take] at hx;split at hx
 ·exact hx
 ·cases hx
theorem Rd.take {k : IntKind} {w : World} {p : Option Addr} {c : Nat} {l : List Nat} (h : Rd k w (.slice p l.length c) l) (m : Nat) (hm : m <= l.length) : Rd k w (.slice p m c) (l.take m) := by
 have h1 := RdC.take h m hm;rw [<- List.map_take] at h1;unfold Rd;rw [List.length_take, Nat.min_eq_left hm];exact h1
theorem info_u64 {P : Program} {e : Nat} (h : (P.info? e).map (fun i => (i.zero, i.size, i.bytes)) = some (some (.int .u64 0), 1, 8)) :
 ∃ i, P.info? e = some i /\ i.zero = some (.int .u64 0) /\ i.size = 1 /\ i.bytes = 8 := info_parts h
def B9 : Nat := 1000000000
theorem two_le_B9 : 2 <= B9 := by decide
theorem Tryz.info_u64 : (Tryz.prog.info? 215).map (fun i => (i.zero, i.size, i.bytes)) = some (some (.int .u64 0), 1, 8) := by kernel_rfl
theorem trim_ex {k : IntKind} (w : World) (l : List Nat) (p : Option Addr) (c n : Nat) (hn : n <= l.length) (h : Rd k w (.slice p l.length c) l)
 (hd : dropZ l = l.take n) : Rd k w (.slice p n c) (dropZ l) := by
 rw [hd]; exact h.take n hn
theorem trim_full (w : World) (v : Value) (l : List Nat) (h : Rd .u64 w v l) :
 Calls Tryz.prog 158 #[v] w (Same (fun v' => Rd .u64 w v' (dropZ l) /\ ∀ n, FreshV n v -> FreshV n v') w) := by
 have h' := h;obtain ⟨p, c, rfl, hc, hm, hr⟩ := h.open;have HH := Lib.hid h';clear h h';have hm' : c <= 9223372036854775807 := hm;go_enter Tryz.func158, Tryz.ntmps158;go_wp2;go_loop [0] (fun t => ∃ n : Nat, n <= l.length /\ t = .slice p n c /\ dropZ l = dropZ (l.take n)) (fun t => match t with | .slice _ n _ => n | _ => 0)
 case atStart => exact ⟨_, Nat.le_refl _, rfl, by rw [List.take_length]⟩
 case round =>
  obtain ⟨n, hn, rfl, hd⟩ := hrel;have HD := Lib.hid hd;clear hd;rcases Nat.eq_zero_or_pos n with rfl | hpos
  ·go_wp2
   go_ret;exact ⟨_, rfl, ⟨trim_ex w l p c 0 hn HH.out (by rw [HD.out]; rfl), fun m hF a l' c' e => by cases e; exact hF _ _ _ rfl⟩, rfl⟩
  ·have hne : l ≠ [] := by intro e; subst e; simp at hn; omega
   obtain ⟨b, off, rfl, hlt0, hcell⟩ := hr hne;obtain ⟨m, rfl⟩ : ∃ m, n = m + 1 := ⟨n - 1, by omega⟩;have hlt : m < l.length := by omega
   have hc1 := hcell m hlt;have hT := Lib.hid (List.take_succ_eq_append_getElem hlt);clear hcell hr;by_cases h0 : l[m] = 0
   ·have H0 := Lib.hid h0
    rw [h0] at hc1;clear h0;go_wp2
    go_round
    case rel => exact ⟨m, by omega, rfl, by rw [HD.out, hT.out, H0.out, dropZ_snoc_zero]⟩
    case measure => simp
   ·have h1 : ((l[m] : Int) == 0) = false := by simpa using h0
    go_wp2;go_ret;exact ⟨_, rfl, ⟨trim_ex w l _ c (m+1) hn HH.out (by rw [HD.out, hT.out, dropZ_snoc_pos _ _ h0]), fun m hF a l' c' e => by cases e; exact hF _ _ _ rfl⟩, rfl⟩
theorem trim_any (w : World) (v : Value) (l : List Nat) (h : Rd .u64 w v l) :
 Calls Tryz.prog 158 #[v] w (Same (fun v' => Rd .u64 w v' (dropZ l)) w) :=
 (trim_full w v l h).mono fun _ _ ⟨v', he, hv, hw⟩ => ⟨v', he, hv.1, hw⟩
def cmpN (a b : Nat) : Int := if a < b then -1 else if b < a then 1 else 0
theorem cmpN_lt {a b : Nat} (h : a < b) : cmpN a b = -1 := by unfold cmpN; rw [if_pos h]
theorem cmpN_gt {a b : Nat} (h : b < a) : cmpN a b = 1 := by unfold cmpN; rw [if_neg (by omega), if_pos h]
theorem cmpN_eq (a : Nat) : cmpN a a = 0 := by unfold cmpN; rw [if_neg (by omega), if_neg (by omega)]
theorem order_top {a b i : Nat} (hi : i < (lm B9 a).length) (hib : i < (lm B9 b).length) (hd : (lm B9 a).drop (i + 1) = (lm B9 b).drop (i + 1))
 (hlt : (lm B9 a)[i] < (lm B9 b)[i]) : a < b := by
 have := lval_lt_of_top B9 _ _ i (lm_lt B9 a two_le_B9) hi hib hd hlt;rwa [lval_lm _ _ two_le_B9, lval_lm _ _ two_le_B9] at this
theorem drop_step {l m : List Nat} {i : Nat} (hi : i < l.length) (him : i < m.length) (hd : l.drop (i + 1) = m.drop (i + 1)) (he : l[i] = m[i]) : l.drop i = m.drop i := by
 rw [<- List.getElem_cons_drop (h := hi), <- List.getElem_cons_drop (h := him), hd, he]
theorem order_any (w : World) (va vb : Value) (a b : Nat) (ha : Rd .u64 w va (lm B9 a)) (hb : Rd .u64 w vb (lm B9 b)) :
 Calls Tryz.prog 120 #[va, vb] w (Drawn (fun v' => v' = .int .i64 (cmpN a b)) w) := by
 obtain ⟨p, c, rfl, hc, hm, hr⟩ := ha.open;obtain ⟨q, d, rfl, hd, hn, hs⟩ := hb.open;clear ha hb;have hm' : c <= 9223372036854775807 := hm;have hn' : d <= 9223372036854775807 := hn;rcases Nat.lt_trichotomy (lm B9 a).length (lm B9 b).length with hl | hl | hl
 ·have HF := Lib.hid (cmpN_lt (lm_lt_of_len B9 a b two_le_B9 hl))
  have h1 : (((lm B9 a).length : Int) != ((lm B9 b).length : Int)) = true := by rw [bne_iff_ne]; omega
  go_enter Tryz.func120, Tryz.ntmps120;go_wp2;go_ret;exact ⟨_, rfl, congrArg (Value.int .i64) HF.out.symm, dr_zero _⟩
 ·have h1 : (((lm B9 a).length : Int) != ((lm B9 b).length : Int)) = false := by rw [bne_eq_false_iff_eq]; omega
  obtain ⟨n, hn0⟩ : ∃ n, (lm B9 a).length = n := ⟨_, rfl⟩;have HA := Lib.hid hn0;have HB := Lib.hid (hl.symm.trans hn0);have hla : (lm B9 a).length <= n := by omega
  have hla' : n <= (lm B9 a).length := by omega
  have hlb : (lm B9 b).length <= n := by omega
  have hlb' : n <= (lm B9 b).length := by omega
  have hnc : n <= c := by omega
  have hnd : n <= d := by omega
  rw [hn0, hl.symm.trans hn0] at h1;rw [hn0] at hl hc;rw [<- hl] at hd;rw [hn0, <- hl];clear hl hn0;go_enter Tryz.func120, Tryz.ntmps120;go_wp2;go_loopw [5] (fun t wr => ∃ i : Nat, i <= n /\ t = .int .i64 ((i : Int) - 1) /\ (lm B9 a).drop i = (lm B9 b).drop i /\ ∃ j, wr = w.drewN j) (fun t _ => (intOf t + 1).toNat)
  case atStart => exact ⟨n, Nat.le_refl _, rfl, by rw [List.drop_eq_nil_of_le hla, List.drop_eq_nil_of_le hlb], 0, rfl⟩
  case round =>
   obtain ⟨i, hi, rfl, hdrop, j, rfl⟩ := hrel;have HD := Lib.hid hdrop;clear hdrop;rcases Nat.eq_zero_or_pos i with rfl | hpos
   ·have HE : Hid (a = b) := Lib.hid (lm_inj B9 two_le_B9 (by simpa using HD.out))
    go_wp2;go_ret;exact ⟨_, rfl, congrArg (Value.int .i64) (show (0 : Int) = cmpN a b by rw [HE.out, cmpN_eq]), j, rfl⟩
   ·obtain ⟨m, rfl⟩ : ∃ m, i = m + 1 := ⟨i - 1, by omega⟩
    have hlt : m < (lm B9 a).length := by omega
    have hltb : m < (lm B9 b).length := by omega
    obtain ⟨ba, oa, rfl, _, hca⟩ := hr (List.ne_nil_of_length_pos (by omega));obtain ⟨bb, ob, rfl, _, hcb⟩ := hs (List.ne_nil_of_length_pos (by omega));have hc1 := hca m hlt;have hc2 := hcb m hltb;clear hca hcb hr hs;obtain ⟨x, hx⟩ : ∃ x, (lm B9 a)[m] = x := ⟨_, rfl⟩;obtain ⟨y, hy⟩ : ∃ y, (lm B9 b)[m] = y := ⟨_, rfl⟩;rw [hx] at hc1;rw [hy] at hc2;have HX := Lib.hid hx;have HY := Lib.hid hy;clear hx hy;have e1 : ((m + 1 : Nat) : Int) - 1 = (m : Int) := by omega
    rw [e1];clear e1;have f1 : (0 : Int) <= (m : Int) := by omega
    have f2 : (m : Int) < (n : Int) := by omega
    rcases Nat.lt_trichotomy x y with hxy | hxy | hxy
    ·have t1 : ((x : Int) != (y : Int)) = true := by rw [bne_iff_ne]; omega
     have t2 : (x : Int) < (y : Int) := by omega
     have HF := Lib.hid (cmpN_lt (order_top hlt hltb HD.out (by rw [HX.out, HY.out]; exact hxy)));go_wp2_with fail;go_quiet (fail);go_wp2_with fail;go_quiet (fail);go_wp2;go_ret;exact ⟨_, rfl, congrArg (Value.int .i64) HF.out.symm, dr_step (dr_step ⟨j, rfl⟩ _) _⟩
    ·subst hxy
     have t1 : ((x : Int) != (x : Int)) = false := by simp
     go_wp2_with fail;go_quiet (fail);go_wp2;go_roundw
     case rel => exact ⟨m, by omega, rfl, drop_step hlt hltb HD.out (by rw [HX.out, HY.out]), _, rfl⟩
     case measure => simp [intOf]
    ·have t1 : ((x : Int) != (y : Int)) = true := by rw [bne_iff_ne]; omega
     have t2 : ¬ (x : Int) < (y : Int) := by omega
     have HF := Lib.hid (cmpN_gt (order_top hltb hlt HD.out.symm (by rw [HX.out, HY.out]; exact hxy)));go_wp2_with fail;go_quiet (fail);go_wp2_with fail;go_quiet (fail);go_wp2;go_ret;exact ⟨_, rfl, congrArg (Value.int .i64) HF.out.symm, dr_step (dr_step ⟨j, rfl⟩ _) _⟩
 ·have HF := Lib.hid (cmpN_gt (lm_lt_of_len B9 b a two_le_B9 hl))
  have h1 : (((lm B9 a).length : Int) != ((lm B9 b).length : Int)) = true := by rw [bne_iff_ne]; omega
  go_enter Tryz.func120, Tryz.ntmps120;go_wp2;go_ret;exact ⟨_, rfl, congrArg (Value.int .i64) HF.out.symm, dr_zero _⟩
theorem cell_one_u64 (w : World) (x : Int) (E : Nat) : ∀ (j : Nat) (u : Value), [Value.int .u64 x][j]? = some u -> (w.alloc (.cells #[.int .u64 x] E)).cell? ((⟨w.heap.size, 0, none⟩ : Addr).add j) = some u := cell_one_new _ _ _
theorem one_cell_u64 (x : Int) : ∀ u ∈ [Value.int .u64 x], u.oneCell' = true := by intro u hu; simp at hu; subst hu; rfl
theorem map_snoc_u64 (l : List Nat) (x : Nat) : (l.map fun x : Nat => Value.int .u64 (x : Int)) ++ [Value.int .u64 (x : Int)] = (l ++ [x]).map fun x : Nat => Value.int .u64 (x : Int) := by simp
theorem below_append {B : Nat} {w wr w2 : World} {e sz n : Nat} {v : Value} {xs : List Value} {o : Obj} (hnx : Below B w wr) (hB : w.heap.size <= wr.heap.size) (hown : wr.ownsRow B e sz v n xs)
 (hgr : (wr.alloc o).grownBy w2 v.ownBlock) (hBw : B <= w.heap.size := by exact Nat.le_refl _) : Below B w w2 :=
 (hnx.alloc (by omega) o).grown hgr (by simp; omega) (fun k hk => (hown.lt k hk).1)
theorem plus_round {B c s v x y X Y P : Nat} (hx : x < B) (hy : y < B) (hc : c <= 1) (hB : 2 <= B) (hs : s = x + y + c) (hv : v + c * P = X + Y) :
 s / B <= 1 /\ s % B < B /\ (v + s % B * P) + s / B * (P * B) = (X + x * P) + (Y + y * P) := by
 subst hs;have h1 : (x + y + c) / B <= 1 := by
  have : (x + y + c) / B < 2 := Nat.div_lt_of_lt_mul (by omega);omega
 refine ⟨h1, Nat.mod_lt _ (by omega), ?_⟩;have h2 := Nat.div_add_mod (x + y + c) B;generalize (x + y + c) / B = q at *;generalize (x + y + c) % B = r at *;have h3 : (B * q + r) * P = (x + y + c) * P := by rw [h2]
 grind
theorem lval_take_succ (B : Nat) (l : List Nat) (k : Nat) (h : k < l.length) : lval B (l.take (k + 1)) = lval B (l.take k) + l[k] * B ^ k := by
 rw [List.take_succ_eq_append_getElem h, lval_snoc, List.length_take, Nat.min_eq_left (by omega)]
def PlusInv (x y o : List Nat) (k c : Nat) : Prop := o.length = k /\ (∀ z ∈ o, z < B9) /\ lval B9 o + c * B9 ^ k = lval B9 (x.take k) + lval B9 (y.take k)
theorem PlusInv.start (x y : List Nat) : PlusInv x y [] 0 0 := ⟨rfl, by simp, by simp [lval]⟩
theorem PlusInv.both {x y o : List Nat} {k c : Nat} (h : PlusInv x y o k c) (hc : c <= 1) (hx : ∀ z ∈ x, z < B9) (hy : ∀ z ∈ y, z < B9)
 (hk : k < x.length) (hky : k < y.length) : PlusInv x y (o ++ [(c + x[k] + y[k]) % B9]) (k + 1) ((c + x[k] + y[k]) / B9) /\ (c + x[k] + y[k]) / B9 <= 1 := by
 obtain ⟨h1, h2, h3⟩ := h;obtain ⟨r1, r2, r3⟩ := plus_round (s := c + x[k] + y[k]) (hx _ (List.getElem_mem hk)) (hy _ (List.getElem_mem hky)) hc two_le_B9 (by omega) h3;refine ⟨⟨by simp [h1], ?_, ?_⟩, r1⟩
 ·intro z hz
  simp only [List.mem_append, List.mem_singleton] at hz;rcases hz with hz | rfl
  ·exact h2 z hz
  ·exact r2
 ·rw [lval_snoc, h1, lval_take_succ _ _ _ hk, lval_take_succ _ _ _ hky, Nat.pow_succ]
  exact r3
theorem PlusInv.one {x y o : List Nat} {k c : Nat} (h : PlusInv x y o k c) (hc : c <= 1) (hx : ∀ z ∈ x, z < B9)
 (hk : k < x.length) (hky : y.length <= k) : PlusInv x y (o ++ [(c + x[k]) % B9]) (k + 1) ((c + x[k]) / B9) /\ (c + x[k]) / B9 <= 1 := by
 obtain ⟨h1, h2, h3⟩ := h;obtain ⟨r1, r2, r3⟩ := plus_round (y := 0) (s := c + x[k]) (hx _ (List.getElem_mem hk)) (by decide) hc two_le_B9 (by omega) h3;refine ⟨⟨by simp [h1], ?_, ?_⟩, r1⟩
 ·intro z hz
  simp only [List.mem_append, List.mem_singleton] at hz;rcases hz with hz | rfl
  ·exact h2 z hz
  ·exact r2
 ·rw [lval_snoc, h1, lval_take_succ _ _ _ hk, Nat.pow_succ, List.take_of_length_le (show y.length <= k + 1 by omega)]
  rw [List.take_of_length_le hky] at r3;omega
theorem PlusInv.done {a b c : Nat} {o : List Nat} (h : PlusInv (lm B9 a) (lm B9 b) o (lm B9 a).length c) (hc : c <= 1) (hl : (lm B9 b).length <= (lm B9 a).length) :
 dropZ (o ++ [c]) = lm B9 (a + b) := by
 obtain ⟨h1, h2, h3⟩ := h;rw [dropZ_eq B9 two_le_B9]
 ·congr 1
  rw [lval_snoc, h1, h3, List.take_of_length_le (Nat.le_refl _), List.take_of_length_le hl, lval_lm _ _ two_le_B9, lval_lm _ _ two_le_B9]
 ·intro z hz
  simp only [List.mem_append, List.mem_singleton] at hz;rcases hz with hz | rfl
  ·exact h2 z hz
  ·have : (2 : Nat) <= B9 := two_le_B9
   omega
theorem plus_any (w : World) (va vb : Value) (a b : Nat) (ha : Rd .u64 w va (lm B9 a)) (hb : Rd .u64 w vb (lm B9 b))
 (hla : (lm B9 a).length <= 1000000) (hlb : (lm B9 b).length <= 1000000) :
 Calls Tryz.prog 118 #[va, vb] w (Ret (fun v w' => Rd .u64 w' v (lm B9 (a + b))) w) := by
 obtain ⟨i0, hi, hz0, hz1, hz2⟩ := info_parts Tryz.info_u64;rcases Nat.lt_or_ge (lm B9 a).length (lm B9 b).length with hlt | hge
 case' inl =>
  obtain ⟨p, c, rfl, hc, hm, hr⟩ := hb.open;obtain ⟨q, d, rfl, hd, hn, hs⟩ := ha.open;have HV : Hid (∀ o c, PlusInv (lm B9 b) (lm B9 a) o (lm B9 b).length c -> c <= 1 -> dropZ (o ++ [c]) = lm B9 (a + b)) := fun o c h hc => by
   rw [Nat.add_comm]; exact h.done hc (by omega)
  have HX := Lib.hid (lm_lt B9 b two_le_B9);have HY := Lib.hid (lm_lt B9 a two_le_B9);clear ha hb;generalize lm B9 (a + b) = R at *;generalize lm B9 b = x at *;generalize lm B9 a = y at *;have hlx : x.length <= 1000000 := hlb;have hly : y.length <= 1000000 := hla;have hyx : y.length <= x.length := by omega
 case' inr =>
  obtain ⟨p, c, rfl, hc, hm, hr⟩ := ha.open;obtain ⟨q, d, rfl, hd, hn, hs⟩ := hb.open;have HV : Hid (∀ o c, PlusInv (lm B9 a) (lm B9 b) o (lm B9 a).length c -> c <= 1 -> dropZ (o ++ [c]) = lm B9 (a + b)) := fun o c h hc => h.done hc (by omega)
  have HX := Lib.hid (lm_lt B9 a two_le_B9);have HY := Lib.hid (lm_lt B9 b two_le_B9);clear ha hb;generalize lm B9 (a + b) = R at *;generalize lm B9 a = x at *;generalize lm B9 b = y at *;have hlx : x.length <= 1000000 := hla;have hly : y.length <= 1000000 := hlb;have hyx : y.length <= x.length := hge
 all_goals
  have hm' : c <= 9223372036854775807 := hm;have hn' : d <= 9223372036854775807 := hn;go_enter Tryz.func118, Tryz.ntmps118;go_wp2_with (first | (at_make; refine wpList_make_own _ rfl _ _ 180 rfl w.heap.size 215 i0 (.int .u64 0) 1 Tryz.underlying180 hi hz0 hz1 _ _ _ (x.length + 1) rfl rfl (by omega) (by rw [hz2]; omega) (by unfold maxLen; omega) (Nat.le_refl _) ?_; intro w1 hown hgr));have hb1 : Below w.heap.size w w1 := (Below.refl _ _).grown hgr (Nat.le_refl _) (fun k hk => by cases hk);clear hgr;go_loopw [5, 6, 22] (fun t5 t6 t22 wr => ∃ (k cy : Nat) (cz : Int) (o : List Nat), k <= x.length /\ t22 = .int .i64 k /\ t6 = .int .u64 cz /\ Hid (cz = cy) /\ 0 <= cz /\ cz <= 1 /\ PlusInv x y o k cy /\ wr.ownsRow w.heap.size 215 1 t5 k (o.map fun x : Nat => Value.int .u64 (x : Int)) /\ Below w.heap.size w wr) (fun _ _ t22 _ => x.length - (intOf t22).toNat)
  case atStart => exact ⟨0, 0, 0, [], Nat.zero_le _, rfl, rfl, rfl, by omega, by omega, PlusInv.start x y, hown, hb1⟩
  case round =>
   obtain ⟨k, cy, cz, o, hk, rfl, rfl, HC, hc0, hcy, hinv, hown, hnx⟩ := hrel;rcases Nat.lt_or_ge k x.length with hkx | hkx
   ·have hne : x ≠ [] := List.ne_nil_of_length_pos (by omega)
    obtain ⟨b, off, rfl, hbl, hcell⟩ := hr hne;have hc1 := zcq hnx hbl (hcell k hkx);have hxk : (x[k] : Int) < 1000000000 := by have := HX.out _ (List.getElem_mem hkx); unfold B9 at this; omega
    have hxk0 : 0 <= (x[k] : Int) := by omega
    obtain ⟨xk, hxe⟩ : ∃ xk, xk = (x[k] : Int) := ⟨_, rfl⟩;rw [<- hxe] at hc1 hxk hxk0;have HXE := Lib.hid hxe;clear hcell hr hxe;rcases Nat.lt_or_ge k y.length with hky | hky
    ·have hney : y ≠ [] := List.ne_nil_of_length_pos (by omega)
     obtain ⟨by', offy, rfl, hbly, hcelly⟩ := hs hney;have hc2 := zcq hnx hbly (hcelly k hky);have hyk : (y[k] : Int) < 1000000000 := by have := HY.out _ (List.getElem_mem hky); unfold B9 at this; omega
     have hyk0 : 0 <= (y[k] : Int) := by omega
     obtain ⟨yk, hye⟩ : ∃ yk, yk = (y[k] : Int) := ⟨_, rfl⟩;rw [<- hye] at hc2 hyk hyk0;have HYE := Lib.hid hye;clear hcelly hs hye;have hk6 : k <= 1000000 := by omega
     go_wp2_with (first | (at_builtin; refine wpList_append_own _ rfl _ _ 180 rfl w.heap.size 215 i0 (.int .u64 0) 1 8 Tryz.underlying180 hi hz0 hz1 hz2 rfl (by decide) _ _ _ rfl (hown.alloc _) ⟨wr.heap.size, 0, none⟩ 1 1 [.int .u64 ((cz + xk + yk) % 1000000000)] rfl rfl (cell_one_u64 _ _ _) (one_cell_u64 _) (by unfold maxLen; omega) (by omega) (by have := hnx.size; simp; omega) ?_));intro v' w2 hown2 hgr2 _;have hcy' : cy <= 1 := by have := HC.out; omega
     have hinv2 := hinv.both hcy' HX.out HY.out hkx hky;have HCC : Hid (((cz + xk + yk) / 1000000000 : Int) = (((cy + x[k] + y[k]) / B9 : Nat) : Int)) := by
      unfold Hid; rw [HC.out, HXE.out, HYE.out]; unfold B9; omega
     have hcc0 : 0 <= (cz + xk + yk) / 1000000000 := by omega
     have hcc1 : (cz + xk + yk) / 1000000000 <= 1 := by omega
     have hown3 : w2.ownsRow w.heap.size 215 1 v' (k + 1) ((o ++ [(cy + x[k] + y[k]) % B9]).map fun x : Nat => Value.int .u64 (x : Int)) := by
      rw [<- map_snoc_u64];have e : ((cz + xk + yk) % 1000000000 : Int) = (((cy + x[k] + y[k]) % B9 : Nat) : Int) := by
       rw [HC.out, HXE.out, HYE.out]; unfold B9; omega
      rw [<- e]; exact hown2
     have hbl2 := below_append hnx hnx.size hown hgr2;clear hown2 hown hgr2 hnx hinv hc1 hc2;go_wp2;go_roundw
     case rel => exact ⟨k + 1, _, _, _, by omega, by go_num, rfl, HCC, hcc0, hcc1, hinv2.1, hown3, hbl2⟩
     case measure => simp [intOf]; omega
    ·have hk6 : k <= 1000000 := by omega
     go_wp2_with (first | (at_builtin; refine wpList_append_own _ rfl _ _ 180 rfl w.heap.size 215 i0 (.int .u64 0) 1 8 Tryz.underlying180 hi hz0 hz1 hz2 rfl (by decide) _ _ _ rfl (hown.alloc _) ⟨wr.heap.size, 0, none⟩ 1 1 [.int .u64 ((cz + xk) % 1000000000)] rfl rfl (cell_one_u64 _ _ _) (one_cell_u64 _) (by unfold maxLen; omega) (by omega) (by have := hnx.size; simp; omega) ?_));intro v' w2 hown2 hgr2 _;have hcy' : cy <= 1 := by have := HC.out; omega
     have hinv2 := hinv.one hcy' HX.out hkx hky;have HCC : Hid (((cz + xk) / 1000000000 : Int) = (((cy + x[k]) / B9 : Nat) : Int)) := by
      unfold Hid; rw [HC.out, HXE.out]; unfold B9; omega
     have hcc0 : 0 <= (cz + xk) / 1000000000 := by omega
     have hcc1 : (cz + xk) / 1000000000 <= 1 := by omega
     have hown3 : w2.ownsRow w.heap.size 215 1 v' (k + 1) ((o ++ [(cy + x[k]) % B9]).map fun x : Nat => Value.int .u64 (x : Int)) := by
      rw [<- map_snoc_u64];have e : ((cz + xk) % 1000000000 : Int) = (((cy + x[k]) % B9 : Nat) : Int) := by
       rw [HC.out, HXE.out]; unfold B9; omega
      rw [<- e]; exact hown2
     have hbl2 := below_append hnx hnx.size hown hgr2;clear hown2 hown hgr2 hnx hinv hc1;go_wp2;go_roundw
     case rel => exact ⟨k + 1, _, _, _, by omega, by go_num, rfl, HCC, hcc0, hcc1, hinv2.1, hown3, hbl2⟩
     case measure => simp [intOf]; omega
   ·have hk6 : k <= 1000000 := by omega
    go_wp2_with (first | (at_builtin; refine wpList_append_own _ rfl _ _ 180 rfl w.heap.size 215 i0 (.int .u64 0) 1 8 Tryz.underlying180 hi hz0 hz1 hz2 rfl (by decide) _ _ _ rfl (hown.alloc _) ⟨wr.heap.size, 0, none⟩ 1 1 [.int .u64 cz] rfl rfl (cell_one_u64 _ _ _) (one_cell_u64 _) (by unfold maxLen; omega) (by omega) (by have := hnx.size; simp; omega) ?_));intro v' w2 hown2 hgr2 _;obtain rfl : k = x.length := by omega
    have hcy' : cy <= 1 := by have := HC.out; omega
    have HR : Hid (dropZ (o ++ [cy]) = R) := HV.out o cy hinv hcy';have hrd : Rd .u64 w2 v' (o ++ [cy]) := by
     refine Rd.of_owns (base := w.heap.size) (e := 215) (cs := (o.map fun x : Nat => Value.int .u64 (x : Int)) ++ [Value.int .u64 cz]) ?_ ?_
     ·rw [HC.out, map_snoc_u64]
     ·rw [List.length_append, hinv.1]; exact hown2
    have hbl2 := below_append hnx hnx.size hown hgr2;clear hown2 hown hgr2 hnx hinv;go_wp2_with (go_at_call 158; refine (trim_any _ _ _ hrd).mono ?_; rintro e w3 ⟨v3, rfl, hv3, rfl⟩);go_ret;exact ⟨_, rfl, HR.out ▸ hv3, hbl2⟩
theorem lval_take_getD (B : Nat) (l : List Nat) (k : Nat) : lval B (l.take (k + 1)) = lval B (l.take k) + l.getD k 0 * B ^ k := by
 rcases Nat.lt_or_ge k l.length with h | h
 ·rw [lval_take_succ B l k h]; simp [List.getD, h]
 ·rw [List.take_of_length_le (by omega), List.take_of_length_le h]; simp [List.getD, h]
def MinusInv (x y o : List Nat) (k c : Nat) : Prop := o.length = k /\ (∀ z ∈ o, z < B9) /\ lval B9 o + lval B9 (y.take k) = lval B9 (x.take k) + c * B9 ^ k \/ False
theorem MinusInv.start (x y : List Nat) : MinusInv x y [] 0 0 := Or.inl ⟨rfl, by simp, by simp [lval]⟩
theorem MinusInv.step {x y o : List Nat} {k c d c' : Nat} (h : MinusInv x y o k c) (hd : d < B9) (he : d + (c + y.getD k 0) = x.getD k 0 + c' * B9) :
 MinusInv x y (o ++ [d]) (k + 1) c' := by
 rcases h with ⟨h1, h2, h3⟩ | h
 ·refine Or.inl ⟨by simp [h1], ?_, ?_⟩
  ·intro z hz
   simp only [List.mem_append, List.mem_singleton] at hz;rcases hz with hz | rfl
   ·exact h2 z hz
   ·exact hd
  ·rw [lval_snoc, h1, lval_take_getD, lval_take_getD, Nat.pow_succ]
   generalize B9 ^ k = P at *;generalize x.getD k 0 = X at *;generalize y.getD k 0 = Y at *;have h4 : (d + (c + Y)) * P = (X + c' * B9) * P := by rw [he]
   grind
 ·exact h.elim
theorem MinusInv.done {a b c : Nat} {o : List Nat} (h : MinusInv (lm B9 a) (lm B9 b) o (lm B9 a).length c) (hba : b <= a) (hl : (lm B9 b).length <= (lm B9 a).length) :
 dropZ o = lm B9 (a - b) := by
 rcases h with ⟨h1, h2, h3⟩ | h
 ·rw [dropZ_eq B9 two_le_B9 _ h2]
  congr 1;have h4 := lval_lt B9 o h2;rw [h1] at h4;rw [List.take_of_length_le (Nat.le_refl _), List.take_of_length_le hl, lval_lm _ _ two_le_B9, lval_lm _ _ two_le_B9] at h3;generalize B9 ^ (lm B9 a).length = P at *;rcases Nat.eq_zero_or_pos c with rfl | hc
  ·omega
  ·have : 1 * P <= c * P := Nat.mul_le_mul_right _ hc
   omega
 ·exact h.elim
theorem minus_full (w : World) (va vb : Value) (a b : Nat) (ha : Rd .u64 w va (lm B9 a)) (hb : Rd .u64 w vb (lm B9 b)) (hba : b <= a)
 (hla : (lm B9 a).length <= 1000000) :
 Calls Tryz.prog 121 #[va, vb] w (Ret (fun v w' => Rd .u64 w' v (lm B9 (a - b)) /\ FreshV w.heap.size v) w) := by
 obtain ⟨i0, hi, hz0, hz1, hz2⟩ := info_parts Tryz.info_u64;have hlb : (lm B9 b).length <= (lm B9 a).length := by
  rcases Nat.lt_or_ge (lm B9 a).length (lm B9 b).length with h | h
  ·have := lm_lt_of_len B9 a b two_le_B9 h; omega
  ·exact h
 obtain ⟨p, c, rfl, hc, hm, hr⟩ := ha.open;obtain ⟨q, d, rfl, hd, hn, hs⟩ := hb.open;have HV : Hid (∀ o c, MinusInv (lm B9 a) (lm B9 b) o (lm B9 a).length c -> dropZ o = lm B9 (a - b)) := fun o c h => h.done hba hlb;have HX := Lib.hid (lm_lt B9 a two_le_B9);have HY := Lib.hid (lm_lt B9 b two_le_B9);clear ha hb hba;generalize lm B9 (a - b) = R at *;generalize lm B9 a = x at *;generalize lm B9 b = y at *;have hm' : c <= 9223372036854775807 := hm;have hn' : d <= 9223372036854775807 := hn;go_enter Tryz.func121, Tryz.ntmps121;go_wp2_with (first | (at_make; refine wpList_make_own _ rfl _ _ 180 rfl w.heap.size 215 i0 (.int .u64 0) 1 Tryz.underlying180 hi hz0 hz1 _ _ _ x.length rfl rfl rfl (by rw [hz2]; omega) (by unfold maxLen; omega) (Nat.le_refl _) ?_; intro w1 hown hgr));have hb1 : Below w.heap.size w w1 := (Below.refl _ _).grown hgr (Nat.le_refl _) (fun k hk => by cases hk);clear hgr;go_loopw [5, 6, 15] (fun t5 t6 t15 wr => ∃ (k cy : Nat) (cz : Int) (o : List Nat), k <= x.length /\ t15 = .int .i64 k /\ t6 = .int .u64 cz /\ Hid (cz = cy) /\ 0 <= cz /\ cz <= 1 /\ MinusInv x y o k cy /\ wr.ownsRow w.heap.size 215 1 t5 k (o.map fun x : Nat => Value.int .u64 (x : Int)) /\ Below w.heap.size w wr) (fun _ _ t15 _ => x.length - (intOf t15).toNat)
 case atStart => exact ⟨0, 0, 0, [], Nat.zero_le _, rfl, rfl, rfl, by omega, by omega, MinusInv.start x y, hown, hb1⟩
 case round =>
  obtain ⟨k, cy, cz, o, hk, rfl, rfl, HC, hc0, hcy, hinv, hown, hnx⟩ := hrel;have hk6 : k <= 1000000 := by omega
  rcases Nat.lt_or_ge k x.length with hkx | hkx
  ·have hne : x ≠ [] := List.ne_nil_of_length_pos (by omega)
   obtain ⟨b, off, rfl, hbl, hcell⟩ := hr hne;have hc1 := zcq hnx hbl (hcell k hkx);have hxk : (x[k] : Int) < 1000000000 := by have := HX.out _ (List.getElem_mem hkx); unfold B9 at this; omega
   have hxk0 : 0 <= (x[k] : Int) := by omega
   obtain ⟨xk, hxe⟩ : ∃ xk, xk = (x[k] : Int) := ⟨_, rfl⟩;rw [<- hxe] at hc1 hxk hxk0;have HXE : Hid (xk = ((x.getD k 0 : Nat) : Int)) := by unfold Hid; rw [hxe]; simp [List.getD, hkx]
   clear hcell hr hxe;rcases Nat.lt_or_ge k y.length with hky | hky
   ·have hney : y ≠ [] := List.ne_nil_of_length_pos (by omega)
    obtain ⟨by', offy, rfl, hbly, hcelly⟩ := hs hney;have hc2 := zcq hnx hbly (hcelly k hky);have hyk : (y[k] : Int) < 1000000000 := by have := HY.out _ (List.getElem_mem hky); unfold B9 at this; omega
    have hyk0 : 0 <= (y[k] : Int) := by omega
    obtain ⟨yk, hye⟩ : ∃ yk, yk = (y[k] : Int) := ⟨_, rfl⟩;rw [<- hye] at hc2 hyk hyk0;have HYT : Hid (yk = ((y.getD k 0 : Nat) : Int)) := by unfold Hid; rw [hye]; simp [List.getD, hky]
    clear hcelly hs hye;by_cases hcmp : xk < cz + yk
    ·have hlt : xk < (cz + yk) := hcmp
     clear hcmp;have hvb : 0 <= xk + 1000000000 - (cz + yk) /\ xk + 1000000000 - (cz + yk) < 1000000000 := by omega
     go_wp2_with (first | (at_builtin; refine wpList_append_own _ rfl _ _ 180 rfl w.heap.size 215 i0 (.int .u64 0) 1 8 Tryz.underlying180 hi hz0 hz1 hz2 rfl (by decide) _ _ _ rfl (hown.alloc _) ⟨wr.heap.size, 0, none⟩ 1 1 [.int .u64 (xk + 1000000000 - (cz + yk))] rfl rfl (cell_one_u64 _ _ _) (one_cell_u64 _) (by unfold maxLen; omega) (by omega) (by have := hnx.size; simp; omega) ?_));intro v' w2 hown2 hgr2 _;obtain ⟨dN, hdN⟩ : ∃ dN : Nat, xk + 1000000000 - (cz + yk) = (dN : Int) := ⟨(xk + 1000000000 - (cz + yk)).toNat, by omega⟩;have hinv2 := hinv.step (d := dN) (c' := 1) (by unfold B9; omega) (by have e1 := HC.out; have e2 := HXE.out; have e3 := HYT.out; unfold B9; omega);have hown3 : w2.ownsRow w.heap.size 215 1 v' (k + 1) ((o ++ [dN]).map fun x : Nat => Value.int .u64 (x : Int)) := by
      rw [<- map_snoc_u64, <- hdN]; exact hown2
     have hbl2 := below_append hnx hnx.size hown hgr2;clear hown2 hown hgr2 hnx hinv hc1 hdN hvb;go_wp2;go_roundw
     case rel => exact ⟨k + 1, 1, 1, _, by omega, by go_num, rfl, rfl, by omega, by omega, hinv2, hown3, hbl2⟩
     case measure => simp [intOf]; omega
    ·have hlt : ¬ xk < (cz + yk) := by omega
     clear hcmp;have hvb : 0 <= xk - (cz + yk) /\ xk - (cz + yk) < 1000000000 := by omega
     go_wp2_with (first | (at_builtin; refine wpList_append_own _ rfl _ _ 180 rfl w.heap.size 215 i0 (.int .u64 0) 1 8 Tryz.underlying180 hi hz0 hz1 hz2 rfl (by decide) _ _ _ rfl (hown.alloc _) ⟨wr.heap.size, 0, none⟩ 1 1 [.int .u64 (xk - (cz + yk))] rfl rfl (cell_one_u64 _ _ _) (one_cell_u64 _) (by unfold maxLen; omega) (by omega) (by have := hnx.size; simp; omega) ?_));intro v' w2 hown2 hgr2 _;obtain ⟨dN, hdN⟩ : ∃ dN : Nat, xk - (cz + yk) = (dN : Int) := ⟨(xk - (cz + yk)).toNat, by omega⟩;have hinv2 := hinv.step (d := dN) (c' := 0) (by unfold B9; omega) (by have e1 := HC.out; have e2 := HXE.out; have e3 := HYT.out; unfold B9; omega);have hown3 : w2.ownsRow w.heap.size 215 1 v' (k + 1) ((o ++ [dN]).map fun x : Nat => Value.int .u64 (x : Int)) := by
      rw [<- map_snoc_u64, <- hdN]; exact hown2
     have hbl2 := below_append hnx hnx.size hown hgr2;clear hown2 hown hgr2 hnx hinv hc1 hdN hvb;go_wp2;go_roundw
     case rel => exact ⟨k + 1, 0, 0, _, by omega, by go_num, rfl, rfl, by omega, by omega, hinv2, hown3, hbl2⟩
     case measure => simp [intOf]; omega
   ·have HYT : Hid (((y.getD k 0 : Nat) : Int) = 0) := by unfold Hid; simp [List.getD, hky]
    clear hs;by_cases hcmp : xk < cz
    ·have hlt : xk < cz := hcmp
     clear hcmp;have hvb : 0 <= xk + 1000000000 - cz /\ xk + 1000000000 - cz < 1000000000 := by omega
     go_wp2_with (first | (at_builtin; refine wpList_append_own _ rfl _ _ 180 rfl w.heap.size 215 i0 (.int .u64 0) 1 8 Tryz.underlying180 hi hz0 hz1 hz2 rfl (by decide) _ _ _ rfl (hown.alloc _) ⟨wr.heap.size, 0, none⟩ 1 1 [.int .u64 (xk + 1000000000 - cz)] rfl rfl (cell_one_u64 _ _ _) (one_cell_u64 _) (by unfold maxLen; omega) (by omega) (by have := hnx.size; simp; omega) ?_));intro v' w2 hown2 hgr2 _;obtain ⟨dN, hdN⟩ : ∃ dN : Nat, xk + 1000000000 - cz = (dN : Int) := ⟨(xk + 1000000000 - cz).toNat, by omega⟩;have hinv2 := hinv.step (d := dN) (c' := 1) (by unfold B9; omega) (by have e1 := HC.out; have e2 := HXE.out; have e3 := HYT.out; unfold B9; omega);have hown3 : w2.ownsRow w.heap.size 215 1 v' (k + 1) ((o ++ [dN]).map fun x : Nat => Value.int .u64 (x : Int)) := by
      rw [<- map_snoc_u64, <- hdN]; exact hown2
     have hbl2 := below_append hnx hnx.size hown hgr2;clear hown2 hown hgr2 hnx hinv hc1 hdN hvb;go_wp2;go_roundw
     case rel => exact ⟨k + 1, 1, 1, _, by omega, by go_num, rfl, rfl, by omega, by omega, hinv2, hown3, hbl2⟩
     case measure => simp [intOf]; omega
    ·have hlt : ¬ xk < cz := by omega
     clear hcmp;have hvb : 0 <= xk - cz /\ xk - cz < 1000000000 := by omega
     go_wp2_with (first | (at_builtin; refine wpList_append_own _ rfl _ _ 180 rfl w.heap.size 215 i0 (.int .u64 0) 1 8 Tryz.underlying180 hi hz0 hz1 hz2 rfl (by decide) _ _ _ rfl (hown.alloc _) ⟨wr.heap.size, 0, none⟩ 1 1 [.int .u64 (xk - cz)] rfl rfl (cell_one_u64 _ _ _) (one_cell_u64 _) (by unfold maxLen; omega) (by omega) (by have := hnx.size; simp; omega) ?_));intro v' w2 hown2 hgr2 _;obtain ⟨dN, hdN⟩ : ∃ dN : Nat, xk - cz = (dN : Int) := ⟨(xk - cz).toNat, by omega⟩;have hinv2 := hinv.step (d := dN) (c' := 0) (by unfold B9; omega) (by have e1 := HC.out; have e2 := HXE.out; have e3 := HYT.out; unfold B9; omega);have hown3 : w2.ownsRow w.heap.size 215 1 v' (k + 1) ((o ++ [dN]).map fun x : Nat => Value.int .u64 (x : Int)) := by
      rw [<- map_snoc_u64, <- hdN]; exact hown2
     have hbl2 := below_append hnx hnx.size hown hgr2;clear hown2 hown hgr2 hnx hinv hc1 hdN hvb;go_wp2;go_roundw
     case rel => exact ⟨k + 1, 0, 0, _, by omega, by go_num, rfl, rfl, by omega, by omega, hinv2, hown3, hbl2⟩
     case measure => simp [intOf]; omega
  ·obtain rfl : k = x.length := by omega
   have HR : Hid (dropZ o = R) := HV.out o cy hinv;have hol : Hid (o.length = x.length) := by
    rcases hinv with h | h
    ·exact h.1
    ·exact h.elim
   have hrd : ∀ t5, wr.ownsRow w.heap.size 215 1 t5 x.length (o.map fun x : Nat => Value.int .u64 (x : Int)) -> Rd .u64 wr t5 o := fun t5 h => by
    refine Rd.of_owns (base := w.heap.size) (e := 215) rfl ?_;rw [hol.out]; exact h
   have hrd2 := hrd _ hown;have hfr := FreshV.of_owns hown;clear hrd hown hinv;go_wp2_with (go_at_call 158; refine (trim_full _ _ _ hrd2).mono ?_; rintro e w3 ⟨v3, rfl, ⟨hv3, hf3⟩, rfl⟩);go_ret;exact ⟨_, rfl, ⟨HR.out ▸ hv3, hf3 _ hfr⟩, hnx⟩
theorem minus_any (w : World) (va vb : Value) (a b : Nat) (ha : Rd .u64 w va (lm B9 a)) (hb : Rd .u64 w vb (lm B9 b)) (hba : b <= a)
 (hla : (lm B9 a).length <= 1000000) :
 Calls Tryz.prog 121 #[va, vb] w (Ret (fun v w' => Rd .u64 w' v (lm B9 (a - b))) w) :=
 (minus_full w va vb a b ha hb hba hla).mono fun _ _ ⟨v', he, hv, hw⟩ => ⟨v', he, hv.1, hw⟩
def Arr (k : IntKind) (w : World) (g E : Nat) (o : List Nat) : Prop := w.heap[g]? = some (.cells (o.map fun x : Nat => Value.int k (x : Int)).toArray E (0, 0))
theorem Arr.cell {k : IntKind} {w : World} {g E : Nat} {o : List Nat} (h : Arr k w g E o) (j : Nat) (hj : j < o.length) : w.cell? ⟨g, j, none⟩ = some (.int k ((o[j] : Nat) : Int)) := by
 rw [cell_of_row w g j _ E (0, 0) h];simp [hj]
theorem Arr.frozen {k : IntKind} {w : World} {g E : Nat} {o : List Nat} (h : Arr k w g E o) (j : Nat) : w.frozen? ⟨g, j, none⟩ = false := by
 unfold World.frozen?;rw [h];simp
theorem Arr.lt {k : IntKind} {w : World} {g E : Nat} {o : List Nat} (h : Arr k w g E o) : g < w.heap.size := (Array.getElem?_eq_some_iff.1 h).1
theorem Arr.set {k : IntKind} {w : World} {g E : Nat} {o : List Nat} (h : Arr k w g E o) (j v : Nat) {u : Value} (hu : u = .int k (v : Int)) : Arr k (w.setCell ⟨g, j, none⟩ u) g E (o.set j v) := by
 subst hu;unfold Arr at *;have hg : g < w.heap.size := (Array.getElem?_eq_some_iff.1 h).1;have h2 := (Array.getElem?_eq_some_iff.1 h).2;simp only [World.setCell, Array.getElem?_modify, if_pos, h, Option.map_some];simp [List.map_set]
theorem Arr.rd {k : IntKind} {w : World} {g E : Nat} {o : List Nat} (h : Arr k w g E o) (hl : o.length <= maxLen) : Rd k w (.slice (some ⟨g, 0, none⟩) o.length o.length) o := by
 refine ⟨_, _, rfl, Nat.le_refl _, hl, by simp, fun _ => ⟨g, 0, rfl, fun i x hx => ?_⟩⟩;have hi : i < o.length := by have := (List.getElem?_eq_some_iff.1 hx).1; simpa using this
 rw [Nat.zero_add, h.cell i hi];simp [hi] at hx;rw [hx]
theorem Arr.drewN {k : IntKind} {w : World} {g E : Nat} {o : List Nat} (h : Arr k w g E o) (n : Nat) : Arr k (w.drewN n) g E o := h
theorem Arr.of_full {k : IntKind} {w : World} {base g E n : Nat} {z : Value} (hz : z = .int k 0) (h : w.ownsRow base E 1 (.slice (some ⟨g, 0, none⟩) n n) n (madeCells z.cells (n * 1)).toList) :
 Arr k w g E (List.replicate n 0) := by
 subst hz;obtain ⟨h1, h2⟩ := h;rcases h2 with ⟨h2, _⟩ | ⟨g', cap, cur, hv, hb, hg, hnc, hcm, hcs, ht⟩
 ·cases h2
 ·cases hv
  unfold Arr;rw [hg];congr 2;rw [List.take_of_length_le (by simp; omega)] at ht;apply Array.toList_inj.1;rw [ht];apply List.ext_getElem
  ·simp [size_madeCells]
  ·intro i h3 h4
   simp [madeCells, Value.cells, Nat.mod_one]
theorem lval_set (B : Nat) (o : List Nat) (j v : Nat) (hj : j < o.length) : lval B (o.set j v) + o[j] * B ^ j = lval B o + v * B ^ j := by
 induction o generalizing j with
 | nil => simp at hj
 | cons x o ih =>
   cases j with
   | zero => simp [lval]; omega
   | succ j =>
     have := ih j (by simpa using hj);simp only [List.set_cons_succ, lval, List.getElem_cons_succ, Nat.pow_succ];grind
theorem lval_replicate (B n : Nat) : lval B (List.replicate n 0) = 0 := by
 induction n with
 | zero => rfl
 | succ n ih => simp [List.replicate_succ, lval, ih]
def Lt9 (o : List Nat) : Prop := ∀ z ∈ o, z < B9
theorem Lt9.set {o : List Nat} (h : Lt9 o) (j v : Nat) (hv : v < B9) : Lt9 (o.set j v) := by
 intro z hz;rcases List.mem_or_eq_of_mem_set hz with h1 | h1
 ·exact h z h1
 ·rw [h1]; exact hv
theorem Lt9.replicate (n : Nat) : Lt9 (List.replicate n 0) := by
 intro z hz; rw [List.eq_of_mem_replicate hz]; decide
theorem times_round {o : List Nat} {j x y c s : Nat} (ho : Lt9 o) (hj : j < o.length) (hx : x < B9) (hy : y < B9) (hc : c < B9) (hs : s = c + (o[j] + x * y)) :
 s / B9 < B9 /\ Lt9 (o.set j (s % B9)) /\ lval B9 (o.set j (s % B9)) + s / B9 * B9 ^ (j + 1) = lval B9 o + c * B9 ^ j + x * y * B9 ^ j := by
 have hoj := ho _ (List.getElem_mem hj);have hxy : x * y <= 999999999 * 999999999 := Nat.mul_le_mul (by unfold B9 at hx; omega) (by unfold B9 at hy; omega);refine ⟨?_, ho.set j _ (Nat.mod_lt _ (by omega)), ?_⟩
 ·apply Nat.div_lt_of_lt_mul
  unfold B9 at *;omega
 ·have h1 := lval_set B9 o j (s % B9) hj
  have h2 := Nat.div_add_mod s B9;rw [Nat.pow_succ];generalize lval B9 (o.set j (s % B9)) = V at *;generalize s / B9 = q at *;generalize s % B9 = r at *;generalize B9 ^ j = P at *;generalize o[j] = oj at *;have h3 : (B9 * q + r) * P = (c + (oj + x * y)) * P := by rw [h2, hs]
  grind
def TimesIn (o0 y : List Nat) (x i k c : Nat) (o : List Nat) : Prop :=
 o.length = o0.length /\ Lt9 o /\ c < B9 /\ lval B9 o + c * B9 ^ (i + k) = lval B9 o0 + x * lval B9 (y.take k) * B9 ^ i
theorem TimesIn.start {o0 y : List Nat} {x i : Nat} (h : Lt9 o0) : TimesIn o0 y x i 0 0 o0 := ⟨rfl, h, by decide, by simp [lval]⟩
theorem TimesIn.step {o0 y o : List Nat} {x i k c s : Nat} (h : TimesIn o0 y x i k c o) (hj : i + k < o.length) (hx : x < B9) (hk : k < y.length) (hy : y[k] < B9)
 (hs : s = c + (o[i + k] + x * y[k])) : TimesIn o0 y x i (k + 1) (s / B9) (o.set (i + k) (s % B9)) := by
 obtain ⟨h1, h2, h3, h4⟩ := h;obtain ⟨r1, r2, r3⟩ := times_round h2 hj hx hy h3 hs;refine ⟨by simp [h1], r2, r1, ?_⟩;rw [show i + (k + 1) = i + k + 1 by omega, r3, h4, lval_take_succ B9 y k hk, Nat.pow_add];grind
def TimesUp (o0 : List Nat) (v k c : Nat) (o : List Nat) : Prop := o.length = o0.length /\ Lt9 o /\ c < B9 /\ lval B9 o + c * B9 ^ k = v
theorem TimesUp.step {o0 o : List Nat} {v k c s : Nat} (h : TimesUp o0 v k c o) (hj : k < o.length) (hs : s = c + o[k]) : TimesUp o0 v (k + 1) (s / B9) (o.set k (s % B9)) := by
 obtain ⟨h1, h2, h3, h4⟩ := h;obtain ⟨r1, r2, r3⟩ := times_round (x := 0) (y := 0) h2 hj (by decide) (by decide) h3 (by omega);exact ⟨by simp [h1], r2, r1, by rw [r3, h4]; simp⟩
theorem TimesUp.room {o0 o : List Nat} {v k c n : Nat} (h : TimesUp o0 v k c o) (hv : v < B9 ^ n) (hc : 0 < c) : k < n := by
 obtain ⟨h1, h2, h3, h4⟩ := h;have : 1 * B9 ^ k <= c * B9 ^ k := Nat.mul_le_mul_right _ hc;have h5 : B9 ^ k < B9 ^ n := by omega
 exact (Nat.pow_lt_pow_iff_right (by decide)).1 h5
theorem times_bound (a b i : Nat) : lval B9 ((lm B9 a).take i) * b < B9 ^ ((lm B9 a).length + (lm B9 b).length) := by
 have h1 : lval B9 ((lm B9 a).take i) < B9 ^ (lm B9 a).length := by
  refine Nat.lt_of_lt_of_le (lval_lt B9 _ (fun x hx => lm_lt B9 a two_le_B9 x (List.mem_of_mem_take hx))) (Nat.pow_le_pow_right (by decide) ?_);rw [List.length_take]; omega
 have h2 := lm_len_lt B9 b two_le_B9;rw [Nat.pow_add];rcases Nat.eq_zero_or_pos b with rfl | hb
 ·rw [Nat.mul_zero]; exact Nat.mul_pos (Nat.pow_pos (by decide)) (Nat.pow_pos (by decide))
 ·exact Nat.mul_lt_mul_of_lt_of_le h1 (Nat.le_of_lt h2) (Nat.pow_pos (by decide))
theorem times_any (w : World) (va vb : Value) (a b : Nat) (ha : Rd .u64 w va (lm B9 a)) (hb : Rd .u64 w vb (lm B9 b))
 (hla : (lm B9 a).length <= 1000000) (hlb : (lm B9 b).length <= 1000000) :
 Calls Tryz.prog 122 #[va, vb] w (Ret (fun v w' => Rd .u64 w' v (lm B9 (a * b))) w) := by
 obtain ⟨i0, hi, hz0, hz1, hz2⟩ := info_parts Tryz.info_u64;obtain ⟨p, c, rfl, hc, hm, hr⟩ := ha.open;obtain ⟨q, d, rfl, hd, hn, hs⟩ := hb.open;have HB := Lib.hid (times_bound a b);have HX := Lib.hid (lm_lt B9 a two_le_B9);have HY := Lib.hid (lm_lt B9 b two_le_B9);have HVX := Lib.hid (lval_lm B9 a two_le_B9);have HVY := Lib.hid (lval_lm B9 b two_le_B9);clear ha hb;generalize lm B9 a = x at *;generalize lm B9 b = y at *;have hm' : c <= 9223372036854775807 := hm;have hn' : d <= 9223372036854775807 := hn;obtain ⟨n, hn0⟩ : ∃ n, n = x.length + y.length + 1 := ⟨_, rfl⟩;have HN := Lib.hid hn0;have hn1 : n <= x.length + y.length + 1 := by omega
 have hn2 : x.length + y.length + 1 <= n := by omega
 clear hn0;go_enter Tryz.func122, Tryz.ntmps122;go_wp2_with (first | (at_make; refine wpList_make_full _ rfl _ _ 180 rfl w.heap.size 215 i0 (.int .u64 0) 1 Tryz.underlying180 hi hz0 hz1 _ _ _ _ n rfl rfl (by omega) (by omega) (by rw [hz2]; omega) (by unfold maxLen; omega) (Nat.le_refl _) ?_; intro w1 hown hgr));have harr := Arr.of_full rfl hown;have hb1 : Below w.heap.size w w1 := (Below.refl _ _).grown hgr (Nat.le_refl _) (fun k hk => by cases hk);clear hgr hown;go_loopw [21] (fun t21 wr => ∃ (i : Nat) (o : List Nat), i <= x.length /\ t21 = .int .i64 i /\ o.length = n /\ Lt9 o /\ Hid (lval B9 o = lval B9 (x.take i) * b) /\ Arr .u64 wr w.heap.size 215 o /\ Below w.heap.size w wr) (fun t21 _ => x.length - (intOf t21).toNat)
 case atStart => exact ⟨0, List.replicate n 0, Nat.zero_le _, rfl, by simp, Lt9.replicate n, by unfold Hid; rw [lval_replicate]; simp [lval], harr, hb1⟩
 case round =>
  obtain ⟨i, o, hi, rfl, hol, ho9, hov, harr, hnx⟩ := hrel;rcases Nat.lt_or_ge i x.length with hix | hix
  ·have hne : x ≠ [] := List.ne_nil_of_length_pos (by omega)
   obtain ⟨bx, off, rfl, hbl, hcell⟩ := hr hne;have hc1 := zcq hnx hbl (hcell i hix);have hxk : (x[i] : Int) < 1000000000 := by have := HX.out _ (List.getElem_mem hix); unfold B9 at this; omega
   have hxk0 : 0 <= (x[i] : Int) := by omega
   obtain ⟨xk, hxe⟩ : ∃ xk, xk = (x[i] : Int) := ⟨_, rfl⟩;rw [<- hxe] at hc1 hxk hxk0;have HXE := Lib.hid hxe;clear hcell hr hxe;go_wp2;obtain ⟨wo, hwo⟩ : ∃ wo : World, wo = wr := ⟨_, rfl⟩;subst hwo;have hxb : x[i] < B9 := HX.out _ (List.getElem_mem hix);go_loopw [8, 28] (fun t8 t28 wr => ∃ (k cy : Nat) (cz : Int) (oo : List Nat), k <= y.length /\ t28 = .int .i64 k /\ t8 = .int .u64 cz /\ Hid (cz = cy) /\ 0 <= cz /\ cz < 1000000000 /\ TimesIn o y x[i] i k cy oo /\ Arr .u64 wr w.heap.size 215 oo /\ Below w.heap.size w wr) (fun _ t28 _ => y.length - (intOf t28).toNat)
   case atStart => exact ⟨0, 0, 0, o, Nat.zero_le _, rfl, rfl, rfl, by omega, by omega, TimesIn.start ho9, harr, hnx⟩
   case round =>
    clear hnx harr hc1;obtain ⟨k, cy, cz, oo, hk, rfl, rfl, HC, hc0, hcy, hinv, harr, hnx⟩ := hrel;have hool : oo.length = n := hinv.1.trans hol;rcases Nat.lt_or_ge k y.length with hky | hky
    ·have hney : y ≠ [] := List.ne_nil_of_length_pos (by omega)
     obtain ⟨bY, offy, rfl, hbly, hcelly⟩ := hs hney;have hc2 := zcq hnx hbly (hcelly k hky);have hyb : y[k] < B9 := HY.out _ (List.getElem_mem hky);have hik : i + k < oo.length := by omega
     have hc3 := harr.cell (i + k) hik;have hf3 := harr.frozen (i + k);have hob : oo[i + k] < B9 := hinv.2.1 _ (List.getElem_mem hik);obtain ⟨yk, hye⟩ : ∃ yk, yk = (y[k] : Int) := ⟨_, rfl⟩;obtain ⟨ok, hoe⟩ : ∃ ok, ok = (oo[i + k] : Int) := ⟨_, rfl⟩;rw [<- hye] at hc2;rw [<- hoe] at hc3;have hyk0 : 0 <= yk /\ yk < 1000000000 := by unfold B9 at hyb; omega
     have hok0 : 0 <= ok /\ ok < 1000000000 := by unfold B9 at hob; omega
     have hxy0 : 0 <= xk * yk := Int.mul_nonneg hxk0 hyk0.1;have hxy1 : xk * yk <= 999999999 * 999999999 := Int.mul_le_mul (by omega) (by omega) hyk0.1 (by omega);have hxy2 : xk * yk <= 999999998000000001 := by omega
     have hin : i + k < n := by omega
     have hi6 : i <= 1000000 := by omega
     have hk6 : k <= 1000000 := by omega
     obtain ⟨s, hse⟩ : ∃ s, s = cy + (oo[i + k] + x[i] * y[k]) := ⟨_, rfl⟩;have HS := Lib.hid (hinv.step (s := s) hik hxb hky hyb hse);have HSE : Hid (cz + (ok + xk * yk) = (s : Int)) := by
      unfold Hid; rw [HC.out, hoe, hye, HXE.out, hse]; push_cast; rfl
     have HQ : Hid ((cz + (ok + xk * yk)) / 1000000000 = ((s / B9 : Nat) : Int)) := by unfold Hid; rw [HSE.out]; unfold B9; omega
     have HM : Hid ((cz + (ok + xk * yk)) % 1000000000 = ((s % B9 : Nat) : Int)) := by unfold Hid; rw [HSE.out]; unfold B9; omega
     have hq1 : 0 <= (cz + (ok + xk * yk)) / 1000000000 /\ (cz + (ok + xk * yk)) / 1000000000 < 1000000000 := by omega
     clear hcelly hs hye hoe hxy1 hool hob hyb hinv hse;go_wp2;go_roundw
     case rel => exact ⟨k + 1, _, _, _, by omega, by go_num, rfl, HQ, hq1.1, hq1.2, HS.out, harr.set (i + k) _ (by rw [HM.out]), hnx.setCell (Nat.le_refl _) _⟩
     case measure => simp [intOf]; omega
    ·have hky' : k = y.length := by omega
     obtain ⟨V, hV⟩ : ∃ V, V = lval B9 (x.take (i + 1)) * b := ⟨_, rfl⟩;have HVV : Hid (V = lval B9 (x.take (i + 1)) * b) := hV;have hup : TimesUp o V (i + y.length) cy oo := by
      obtain ⟨h1, h2, h3, h4⟩ := hinv;refine ⟨h1, h2, h3, ?_⟩;rw [hky', List.take_of_length_le (Nat.le_refl _), HVY.out, hov.out] at h4;rw [h4, hV, lval_take_succ B9 x i hix];grind
     have hroom : ∀ kk cc o2, TimesUp o V kk cc o2 -> 0 < cc -> kk < n := fun kk cc o2 h hc => by
      have := h.room (n := x.length + y.length) (by rw [hV]; exact HB.out (i + 1)) hc;omega
     have HRM := Lib.hid hroom;clear hs hinv hky' hV hroom hxb;go_wp2;obtain ⟨wo2, hwo2⟩ : ∃ wo : World, wo = wr := ⟨_, rfl⟩;subst hwo2;go_loopw [8, 11] (fun t8 t11 wr => ∃ (k cy : Nat) (cz : Int) (oo : List Nat), t11 = .int .i64 k /\ k <= n + n /\ t8 = .int .u64 cz /\ Hid (cz = cy) /\ 0 <= cz /\ cz < 1000000000 /\ TimesUp o V k cy oo /\ Arr .u64 wr w.heap.size 215 oo /\ Below w.heap.size w wr) (fun _ t11 _ => n + n - (intOf t11).toNat)
     case atStart => exact ⟨i + y.length, cy, cz, oo, by go_num, by omega, rfl, HC, hc0, hcy, hup, harr, hnx⟩
     case round =>
      clear hnx harr HC hc0 hcy hup hk;obtain ⟨k, cy, cz, oo, rfl, hk, rfl, HC, hc0, hcy, hinv, harr, hnx⟩ := hrel;have hool : oo.length = n := hinv.1.trans hol;by_cases hz : 0 < cz
      ·have hkn : k < n := HRM.out k cy oo hinv (by have := HC.out; omega)
       have hik : k < oo.length := by omega
       have hc3 := harr.cell k hik;have hf3 := harr.frozen k;have hob : oo[k] < B9 := hinv.2.1 _ (List.getElem_mem hik);obtain ⟨ok, hoe⟩ : ∃ ok, ok = (oo[k] : Int) := ⟨_, rfl⟩;rw [<- hoe] at hc3;have hok0 : 0 <= ok /\ ok < 1000000000 := by unfold B9 at hob; omega
       obtain ⟨s, hse⟩ : ∃ s, s = cy + oo[k] := ⟨_, rfl⟩;have HS := Lib.hid (hinv.step (s := s) hik hse);have HSE : Hid (cz + ok = (s : Int)) := by unfold Hid; rw [HC.out, hoe, hse]; push_cast; rfl
       have HQ : Hid ((cz + ok) / 1000000000 = ((s / B9 : Nat) : Int)) := by unfold Hid; rw [HSE.out]; unfold B9; omega
       have HM : Hid ((cz + ok) % 1000000000 = ((s % B9 : Nat) : Int)) := by unfold Hid; rw [HSE.out]; unfold B9; omega
       have hq1 : 0 <= (cz + ok) / 1000000000 /\ (cz + ok) / 1000000000 < 1000000000 := by omega
       clear hoe hool hob hinv hse;go_wp2;go_roundw
       case rel => exact ⟨k + 1, _, _, _, by go_num, by omega, rfl, HQ, hq1.1, hq1.2, HS.out, harr.set k _ (by rw [HM.out]), hnx.setCell (Nat.le_refl _) _⟩
       case measure => simp [intOf]; omega
      ·have hcy0 : cy = 0 := by have := HC.out; omega
       have hov2 : Hid (lval B9 oo = lval B9 (x.take (i + 1)) * b) := by
        obtain ⟨h1, h2, h3, h4⟩ := hinv;rw [hcy0, Nat.zero_mul, Nat.add_zero] at h4;unfold Hid; rw [h4, HVV.out]
       have hoo9 := hinv.2.1;have HOL := Lib.hid hool;clear hcy0 hinv hool;go_wp2;go_roundw
       case rel => exact ⟨i + 1, oo, by omega, by go_num, HOL.out, hoo9, hov2, harr, hnx⟩
       case measure => simp [intOf]; omega
  ·have hi' : i = x.length := by omega
   have HR : Hid (dropZ o = lm B9 (a * b)) := by
    unfold Hid;rw [dropZ_eq B9 two_le_B9 o ho9, hov.out, List.take_of_length_le (by omega), HVX.out]
   have hrd := harr.rd (by unfold maxLen; omega);rw [hol] at hrd;clear harr hov;go_wp2_with (go_at_call 158; refine (trim_any _ _ _ hrd).mono ?_; rintro e w3 ⟨v3, rfl, hv3, rfl⟩);go_ret;exact ⟨_, rfl, HR.out ▸ hv3, hnx⟩
theorem small_any (w : World) (va : Value) (a d : Nat) (dz : Int) (hdz : dz = (d : Int)) (ha : Rd .u64 w va (lm B9 a)) (hla : (lm B9 a).length <= 1000000) (hd : d < B9) :
 Calls Tryz.prog 195 #[va, .int .u64 dz] w (Ret (fun v w' => Rd .u64 w' v (lm B9 (a * d))) w) := by
 have HDZ := Lib.hid hdz;have HD : Hid (dropZ [d] = lm B9 d) := by
  unfold Hid;rw [dropZ_eq B9 two_le_B9 [d] (by intro y hy; simp at hy; omega)];simp [lval]
 have hll : (lm B9 d).length <= 1000000 := Nat.le_trans (lm_len_le B9 d 1 two_le_B9 (by simpa using hd)) (by decide);have hrd : Rd .u64 (w.alloc (.cells #[.int .u64 dz] 215)) (.slice (some ⟨w.heap.size, 0, none⟩) 1 1) [d] :=
  (show Arr .u64 (w.alloc (.cells #[.int .u64 dz] 215)) w.heap.size 215 [d] by unfold Arr; rw [heap_alloc_new, hdz]; rfl).rd (by simp [maxLen])
 have ha2 : Rd .u64 (w.alloc (.cells #[.int .u64 dz] 215)) va (lm B9 a) := ha.alloc _;have hb0 : Below w.heap.size w (w.alloc (.cells #[.int .u64 dz] 215)) := (Below.refl _ _).alloc (Nat.le_refl _) _;clear ha hdz;go_enter Tryz.func195, Tryz.ntmps195;go_wp2_with fail;refine (trim_any _ _ _ hrd).mono ?_;rintro e w3 ⟨v3, rfl, hv3, rfl⟩;rw [HD.out] at hv3;go_wp2_with fail;refine (times_any _ _ _ a d ha2 hv3 hla hll).mono ?_;rintro e w3 ⟨v4, rfl, hv4, hb4⟩;go_wp2_with fail;go_ret;exact ⟨_, rfl, hv4, hb0.trans (hb4.mono (by simp))⟩
end Go.Proofs.YtgdpoankaojklaaGreatDoor
