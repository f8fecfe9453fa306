import Derived.WalkKit
import Derived.WalkLawsBesides
import Derived.WalkSpells
import Derived.Lib.Hide
import Derived.Deep.QuietTactic
import Derived.BigQuiet
import Derived.Test.YtmcbeajdloaliaaGreatDoorProg
import Derived.Test.YtmcbeajdloaliaaGreatDoorUN1
/- What memory reads as; the loops over limbs. -/
set_option maxHeartbeats 1000000
set_option maxRecDepth 100000
namespace Go.Proofs.YtmcbeajdloaliaaGreatDoor
open Go.RowKit
theorem zcq {B b i : Nat} {w w' : World} {v : Value} (h : Below B w w') (Z : b < B) (e : w.cell? ⟨b, i, none⟩ = some v) : w'.cell? ⟨b, i, none⟩ = some v := (h.cell (p := ⟨b, i, none⟩) Z).trans e
theorem zct {b i : Nat} {w w' : World} {v : Value} (h : Below w.heap.size w w') (e : w.cell? ⟨b, i, none⟩ = some v) : w'.cell? ⟨b, i, none⟩ = some v := (h.cell (p := ⟨b, i, none⟩) (World.block_lt_of_cell? w _ e)).trans e
theorem zput : (∀ {xs : List Value} {i : Nat} (h : i < xs.toArray.size), xs.toArray[i] = xs[i]'(by simpa using h)) /\ (∀ (a : Value) (l : List Value) (h : 0 < (a :: l).length), (a :: l)[0] = a) /\ (∀ (a : Value) (l : List Value) (i : Nat) (h : i + 1 < (a :: l).length), (a :: l)[i + 1] = l[i]'(by simpa using h)) /\ (∀ (l : List Value) (i : Nat) (a : Value), l.toArray.setIfInBounds i a = (l.set i a).toArray) /\ (∀ {x : Value} {xs : List Value} {a : Value}, (x :: xs).set 0 a = a :: xs) /\ ∀ {x : Value} {xs : List Value} {i : Nat} {a : Value}, (x :: xs).set (i + 1) a = x :: xs.set i a := ⟨@List.getElem_toArray Value, @List.getElem_cons_zero Value, @List.getElem_cons_succ Value, @List.setIfInBounds_toArray Value, @List.set_cons_zero Value, @List.set_cons_succ Value⟩
theorem zex {α : Type} (a : α) : ∃ b, b = a := ⟨a, rfl⟩
theorem zbt {w v u : World} (h : Below w.heap.size w v) (k : Below v.heap.size v u) : Below w.heap.size w u := h.trans (k.mono h.size)
theorem zal (w : World) (o : Obj) : Below w.heap.size w (w.alloc o) := (Below.refl _ _).alloc (Nat.le_refl _) _
theorem zal2 (w : World) (o p : Obj) : Below w.heap.size w ((w.alloc o).alloc p) := (zal w o).alloc (by simp) _
theorem ho0 (w : World) (o : Obj) (i : Nat) (h : i < w.heap.size) : (w.alloc o).heap[i]? = w.heap[i]? := by
 show (w.heap.push o)[i]? = w.heap[i]?;rw [Array.getElem?_push, if_neg (Nat.ne_of_lt h)]
def RdC (sz : Nat) (w : World) (v : Value) (n : Nat) (cs : List Value) : Prop :=
 ∃ p c, v = .slice p n c /\ n <= c /\ c <= maxLen /\ cs.length = n * sz /\
  (cs ≠ [] -> ∃ b off, p = some ⟨b, off, none⟩ /\ ∀ (i : Nat) (x : Value), cs[i]? = some x -> w.cell? ⟨b, off + i, none⟩ = some x)
def Rd (k : IntKind) (w : World) (v : Value) (l : List Nat) : Prop := RdC 1 w v l.length (l.map fun x : Nat => Value.int k (x : Int))
def RdI (k : IntKind) (w : World) (v : Value) (l : List Int) : Prop := RdC 1 w v l.length (l.map fun x : Int => Value.int k x)
def RdS (w : World) (v : Value) (l : List ByteArray) : Prop := RdC 1 w v l.length (l.map fun x => Value.string x)
def Same (Φ : Value -> Prop) (w : World) (e : Ending) (w' : World) : Prop := ∃ v, e = .returned v /\ Φ v /\ w = w'
def Drawn (Φ : Value -> Prop) (w : World) (e : Ending) (w' : World) : Prop := ∃ v, e = .returned v /\ Φ v /\ ∃ n, w' = w.drewN n
def Ret (Φ : Value -> World -> Prop) (w : World) (e : Ending) (w' : World) : Prop := ∃ v, e = .returned v /\ Φ v w' /\ Below w.heap.size w w'
theorem zR {P : Program} {f : FuncId} {a : Array Value} {w : World} {v : Value} {R : Ending → World → Prop} (h : Calls P f a w (Ret (fun r _ => r = v) w)) (k : ∀ x, Below w.heap.size w x → R (.returned v) x) : Calls P f a w R := h.mono (by rintro e x ⟨_, rfl, rfl, y⟩; exact k x y)
theorem bdN (w : World) (n : Nat) : Below w.heap.size w (w.drewN n) := ⟨rfl, rfl, rfl, Nat.le_refl _, fun _ _ => rfl⟩
theorem dsp {w w1 : World} (h : ∃ n, w1 = w.drewN n) (m : Nat) : ∃ n, w1.drewN m = w.drewN n := by
 obtain ⟨n, rfl⟩ := h;exact ⟨n + m, World.drewN_drewN _ _ _⟩
theorem dzo (w : World) : ∃ n, w = w.drewN n := ⟨0, rfl⟩
theorem Same.ret {Φ : Value -> Prop} {w : World} {e : Ending} {w' : World} (h : Same Φ w e w') : Ret (fun v _ => Φ v) w e w' := by
 obtain ⟨v, Z, Y, rfl⟩ := h;exact ⟨v, Z, Y, Below.refl _ _⟩
theorem Drawn.ret {Φ : Value -> Prop} {w : World} {e : Ending} {w' : World} (h : Drawn Φ w e w') : Ret (fun v _ => Φ v) w e w' := by
 obtain ⟨v, Z, Y, n, rfl⟩ := h;exact ⟨v, Z, Y, bdN _ _⟩
theorem RdC.below {sz : Nat} {w w' : World} {v : Value} {n : Nat} {cs : List Value} (h : RdC sz w v n cs) (U : Below w.heap.size w w') : RdC sz w' v n cs := by
 obtain ⟨p, c, Q, Z, Y, X, V⟩ := h;refine ⟨p, c, Q, Z, Y, X, fun hne => ?_⟩;obtain ⟨b, off, R, S⟩ := V hne;refine ⟨b, off, R, fun i x hx => ?_⟩;have := S i x hx;rw [U.cell (p := ⟨b, off + i, none⟩) (World.block_lt_of_cell? w _ this)];exact this
theorem RdC.drewN {sz : Nat} {w : World} {v : Value} {n : Nat} {cs : List Value} (h : RdC sz w v n cs) (j : Nat) : RdC sz (w.drewN j) v n cs := h.below (bdN w j)
theorem RdC.alloc {sz : Nat} {w : World} {v : Value} {n : Nat} {cs : List Value} (h : RdC sz w v n cs) (o : Obj) : RdC sz (w.alloc o) v n cs :=
 h.below ((Below.refl _ _).alloc (Nat.le_refl _) o)
theorem RdC.nil (sz : Nat) (w : World) (c : Nat) (Z : c <= maxLen) (p : Option Addr) : RdC sz w (.slice p 0 c) 0 [] :=
 ⟨p, c, rfl, Nat.zero_le _, Z, by simp, fun h => absurd rfl h⟩
theorem RdC.nil0 (sz : Nat) (w : World) : RdC sz w (.slice none 0 0) 0 [] := RdC.nil sz w 0 (by decide) none
theorem RdC.set_other {sz : Nat} {w : World} {v : Value} {n : Nat} {cs : List Value} (h : RdC sz w v n cs) {a : Addr} {x c : Value} (R : w.cell? a = some c) (Y : ∀ y ∈ cs, y ≠ c) : RdC sz (w.setCell a x) v n cs := by
 obtain ⟨p, q, N, X, V, U, S⟩ := h;refine ⟨p, q, N, X, V, U, fun hn => ?_⟩;obtain ⟨b, off, Q, O⟩ := S hn;refine ⟨b, off, Q, fun i y hy => ?_⟩;have := O i y hy;have Z : a ≠ ⟨b, off + i, none⟩ := fun e => by
  rw [<- e, R] at this;cases this;exact Y c (List.mem_of_getElem? hy) rfl
 rw [World.cell?_setCell_other _ _ _ _ (by first | exact Z | exact Z.symm)];exact this
def OldV (n : Nat) (v : Value) : Prop := ∀ a l c, v = .slice (some a) l c -> a.block < n
theorem RdC.belowB {sz B : Nat} {w w' : World} {v : Value} {n : Nat} {cs : List Value} (h : RdC sz w v n cs) (Q : Below B w w') (N : OldV B v) : RdC sz w' v n cs := by
 obtain ⟨p, c, Y, X, V, U, S⟩ := h;refine ⟨p, c, Y, X, V, U, fun hne => ?_⟩;obtain ⟨b, off, Z, O⟩ := S hne;refine ⟨b, off, Z, fun i x hx => ?_⟩;have R := O i x hx;rw [Q.cell (p := ⟨b, off + i, none⟩) (N ⟨b, off, none⟩ n c (by rw [Y, Z]))];exact R
theorem RdC.old {sz : Nat} {w : World} {v : Value} {n : Nat} {cs : List Value} (h : RdC sz w v n cs) (Z : cs ≠ []) : OldV w.heap.size v := by
 obtain ⟨p, c, S, R, Q, O, X⟩ := h;obtain ⟨b, off, U, V⟩ := X Z;intro a l c' e;rw [S, U] at e;cases e;have Y := V 0 (cs.head Z) (by rw [List.head_eq_getElem]; simp);exact World.block_lt_of_cell? w ⟨b, off + 0, none⟩ Y
def FreshV (n : Nat) (v : Value) : Prop := ∀ a l c, v = .slice (some a) l c -> n <= a.block
theorem FreshV.of_owns {w : World} {base e sz : Nat} {v : Value} {n : Nat} {cs : List Value} (h : w.ownsRow base e sz v n cs) : FreshV base v := by
 obtain ⟨U, Y⟩ := h;rcases Y with ⟨rfl, V⟩ | ⟨g, cap, Z, rfl, X, _⟩
 ·intro a l c e; cases e
 ·intro a l c e; cases e; exact X
theorem RdC.of_owns {w : World} {base e sz : Nat} {v : Value} {n : Nat} {cs : List Value} (h : w.ownsRow base e sz v n cs) : RdC sz w v n cs := by
 obtain ⟨U, R⟩ := h;rcases R with ⟨rfl, S⟩ | ⟨g, cap, Z, rfl, M, O, V, X, Q, N⟩
 ·subst S
  obtain rfl := List.length_eq_zero_iff.1 (by simpa using U);exact RdC.nil0 _ _
 ·refine ⟨_, cap, rfl, V, X, U, fun _ => ⟨g, 0, rfl, fun i x hx => ?_⟩⟩
  have L : i < cs.length := (List.getElem?_eq_some_iff.1 hx).1;rw [Nat.zero_add, cell_of_row w g i Z e (0, 0) O];have Y : (Z.toList.take (n * sz))[i]? = some x := by rw [N]; exact hx
  rw [List.getElem?_take] at Y;rw [if_pos (by omega)] at Y;simpa using Y
theorem Rd.of_owns {k : IntKind} {w : World} {base e : Nat} {v : Value} {l : List Nat} {cs : List Value} (Z : cs = l.map fun x : Nat => Value.int k (x : Int))
 (h : w.ownsRow base e 1 v l.length cs) : Rd k w v l := by
 subst Z; exact RdC.of_owns h
theorem RdI.of_owns {k : IntKind} {w : World} {base e : Nat} {v : Value} {l : List Int} {cs : List Value} (Z : cs = l.map fun x : Int => Value.int k x)
 (h : w.ownsRow base e 1 v l.length cs) : RdI k w v l := by
 subst Z; exact RdC.of_owns h
theorem Rd.open {k : IntKind} {w : World} {v : Value} {l : List Nat} (h : Rd k w v l) : ∃ p c, v = .slice p l.length c /\ l.length <= c /\ c <= maxLen /\
 (l ≠ [] -> ∃ b off, p = some ⟨b, off, none⟩ /\ b < w.heap.size /\ ∀ (i : Nat) (Y : i < l.length), w.cell? ⟨b, off + i, none⟩ = some (.int k ((l[i] : Nat) : Int))) := by
 obtain ⟨p, c, O, V, U, N, S⟩ := h;refine ⟨p, c, O, V, U, fun hne => ?_⟩;obtain ⟨b, off, Q, R⟩ := S (by simpa using hne);have Z : ∀ (i : Nat) (Y : i < l.length), w.cell? ⟨b, off + i, none⟩ = some (.int k ((l[i] : Nat) : Int)) := fun i Y => R i _ (by simp [Y])
 have X : 0 < l.length := List.length_pos_iff.2 hne;exact ⟨b, off, Q, World.block_lt_of_cell? w _ (Z 0 X), Z⟩
theorem RdI.open {k : IntKind} {w : World} {v : Value} {l : List Int} (h : RdI k w v l) : ∃ p c, v = .slice p l.length c /\ l.length <= c /\ c <= maxLen /\
 (l ≠ [] -> ∃ b off, p = some ⟨b, off, none⟩ /\ b < w.heap.size /\ ∀ (i : Nat) (Y : i < l.length), w.cell? ⟨b, off + i, none⟩ = some (.int k (l[i]))) := by
 obtain ⟨p, c, O, V, U, N, S⟩ := h;refine ⟨p, c, O, V, U, fun hne => ?_⟩;obtain ⟨b, off, Q, R⟩ := S (by simpa using hne);have Z : ∀ (i : Nat) (Y : i < l.length), w.cell? ⟨b, off + i, none⟩ = some (.int k (l[i])) := fun i Y => R i _ (by simp [Y])
 have X : 0 < l.length := List.length_pos_iff.2 hne;exact ⟨b, off, Q, World.block_lt_of_cell? w _ (Z 0 X), Z⟩
theorem RdC.take {w : World} {p : Option Addr} {n c : Nat} {cs : List Value} (h : RdC 1 w (.slice p n c) n cs) (m : Nat) (Q : m <= n) : RdC 1 w (.slice p m c) m (cs.take m) := by
 obtain ⟨O, c', U, S, Z, R, Y⟩ := h;cases U;refine ⟨p, c, rfl, by omega, Z, by rw [List.length_take]; omega, fun hne => ?_⟩;obtain ⟨b, off, V, X⟩ := Y (fun e => hne (by rw [e]; simp));refine ⟨b, off, V, fun i x hx => X i x ?_⟩;rw [List.getElem?_take] at hx;split at hx
 ·exact hx
 ·cases hx
theorem Rd.take {k : IntKind} {w : World} {p : Option Addr} {c : Nat} {l : List Nat} (h : Rd k w (.slice p l.length c) l) (m : Nat) (Y : m <= l.length) : Rd k w (.slice p m c) (l.take m) := by
 have Z := RdC.take h m Y;rw [<- List.map_take] at Z;unfold Rd;rw [List.length_take, Nat.min_eq_left Y];exact Z
theorem info_u64 {P : Program} {e : Nat} (h : (P.info? e).map (fun i => (i.zero, i.size, i.bytes)) = some (some (.int .u64 0), 1, 8)) :
 ∃ i, P.info? e = some i /\ i.zero = some (.int .u64 0) /\ i.size = 1 /\ i.bytes = 8 := info_parts h
def B9 : Nat := 1000000000
theorem tlB : 2 <= B9 := by decide
theorem Tryz.info_u64 : (Tryz.prog.info? 193).map (fun i => (i.zero, i.size, i.bytes)) = some (some (.int .u64 0), 1, 8) := by kernel_rfl
theorem tex {k : IntKind} (w : World) (l : List Nat) (p : Option Addr) (c n : Nat) (Y : n <= l.length) (h : Rd k w (.slice p l.length c) l)
 (Z : dropZ l = l.take n) : Rd k w (.slice p n c) (dropZ l) := by
 rw [Z]; exact h.take n Y
theorem tfl (w : World) (v : Value) (l : List Nat) (h : Rd .u64 w v l) :
 Calls Tryz.prog 137 #[v] w (Same (fun v' => Rd .u64 w v' (dropZ l) /\ ∀ n, FreshV n v -> FreshV n v') w) := by
 have Q := h;obtain ⟨p, c, rfl, E, I, K⟩ := h.open;have R := Lib.hid Q;clear h Q;have H : c <= 9223372036854775807 := I;go_enter Tryz.func137, Tryz.ntmps137;go_wp2;go_loop [0] (fun t => ∃ n : Nat, n <= l.length /\ t = .slice p n c /\ dropZ l = dropZ (l.take n)) (fun t => match t with | .slice _ n _ => n | _ => 0)
 case atStart => exact ⟨_, Nat.le_refl _, rfl, by rw [List.take_length]⟩
 case round =>
  obtain ⟨n, U, rfl, N⟩ := hrel;have X := Lib.hid N;clear N;rcases Nat.eq_zero_or_pos n with rfl | L
  ·go_wp2
   go_ret;exact ⟨_, rfl, ⟨tex w l p c 0 U R.out (by rw [X.out]; rfl), fun m hF a l' c' e => by cases e; exact hF _ _ _ rfl⟩, rfl⟩
  ·have S : l ≠ [] := by intro e; subst e; simp at U; omega
   obtain ⟨b, off, rfl, M, Z⟩ := K S;obtain ⟨m, rfl⟩ : ∃ m, n = m + 1 := ⟨n - 1, by omega⟩;have Y : m < l.length := by omega
   have V := Z m Y;have O := Lib.hid (List.take_succ_eq_append_getElem Y);clear Z K;by_cases h0 : l[m] = 0
   ·have J := Lib.hid h0
    rw [h0] at V;clear h0;go_wp2
    go_round
    case rel => exact ⟨m, by omega, rfl, by rw [X.out, O.out, J.out, db0]⟩
    case measure => simp
   ·have G : ((l[m] : Int) == 0) = false := by simpa using h0
    go_wp2;go_ret;exact ⟨_, rfl, ⟨tex w l _ c (m+1) U R.out (by rw [X.out, O.out, dZs _ _ h0]), fun m hF a l' c' e => by cases e; exact hF _ _ _ rfl⟩, rfl⟩
theorem tay (w : World) (v : Value) (l : List Nat) (h : Rd .u64 w v l) :
 Calls Tryz.prog 137 #[v] w (Same (fun v' => Rd .u64 w v' (dropZ l)) w) :=
 (tfl w v l h).mono fun _ _ ⟨v', he, hv, hw⟩ => ⟨v', he, hv.1, hw⟩
def cmpN (a b : Nat) : Int := if a < b then -1 else if b < a then 1 else 0
theorem cNl {a b : Nat} (h : a < b) : cmpN a b = -1 := by unfold cmpN; rw [if_pos h]
theorem cNg {a b : Nat} (h : b < a) : cmpN a b = 1 := by unfold cmpN; rw [if_neg (by omega), if_pos h]
theorem cNe (a : Nat) : cmpN a a = 0 := by unfold cmpN; rw [if_neg (by omega), if_neg (by omega)]
theorem otp {a b i : Nat} (V : i < (lm B9 a).length) (Z : i < (lm B9 b).length) (X : (lm B9 a).drop (i + 1) = (lm B9 b).drop (i + 1))
 (Y : (lm B9 a)[i] < (lm B9 b)[i]) : a < b := by
 have := lb0 B9 _ _ i (lm_lt B9 a tlB) V Z X Y;rwa [llm _ _ tlB, llm _ _ tlB] at this
theorem di0 {l m : List Nat} {i : Nat} (V : i < l.length) (Z : i < m.length) (Y : l.drop (i + 1) = m.drop (i + 1)) (X : l[i] = m[i]) : l.drop i = m.drop i := by
 rw [<- List.getElem_cons_drop (h := V), <- List.getElem_cons_drop (h := Z), Y, X]
theorem oay (w : World) (o l : Value) (a b : Nat) (D : Rd .u64 w o (lm B9 a)) (C : Rd .u64 w l (lm B9 b)) :
 Calls Tryz.prog 101 #[o, l] w (Drawn (fun v' => v' = .int .i64 (cmpN a b)) w) := by
 obtain ⟨p, c, rfl, h, f, v⟩ := D.open;obtain ⟨q, d, rfl, g, hn, s⟩ := C.open;clear D C;have e : c <= 9223372036854775807 := f;have h0 : d <= 9223372036854775807 := hn;rcases Nat.lt_trichotomy (lm B9 a).length (lm B9 b).length with U | U | U
 ·have R := Lib.hid (cNl (llo B9 a b tlB U))
  have K : (((lm B9 a).length : Int) != ((lm B9 b).length : Int)) = true := by rw [bne_iff_ne]; omega
  go_enter Tryz.func101, Tryz.ntmps101;go_wp2;go_ret;exact ⟨_, rfl, congrArg (Value.int .i64) R.out.symm, dzo _⟩
 ·have K : (((lm B9 a).length : Int) != ((lm B9 b).length : Int)) = false := by rw [bne_eq_false_iff_eq]; omega
  obtain ⟨n, Z⟩ : ∃ n, (lm B9 a).length = n := ⟨_, rfl⟩;have HA := Lib.hid Z;have HB := Lib.hid (U.symm.trans Z);have H : (lm B9 a).length <= n := by omega
  have B : n <= (lm B9 a).length := by omega
  have G : (lm B9 b).length <= n := by omega
  have A : n <= (lm B9 b).length := by omega
  have h2 : n <= c := by omega
  have h3 : n <= d := by omega
  rw [Z, U.symm.trans Z] at K;rw [Z] at U h;rw [<- U] at g;rw [Z, <- U];clear U Z;go_enter Tryz.func101, Tryz.ntmps101;go_wp2;go_loopw [5] (fun t wr => ∃ i : Nat, i <= n /\ t = .int .i64 ((i : Int) - 1) /\ (lm B9 a).drop i = (lm B9 b).drop i /\ ∃ j, wr = w.drewN j) (fun t _ => (intOf t + 1).toNat)
  case atStart => exact ⟨n, Nat.le_refl _, rfl, by rw [List.drop_eq_nil_of_le H, List.drop_eq_nil_of_le G], 0, rfl⟩
  case round =>
   obtain ⟨i, hi, rfl, X, j, rfl⟩ := hrel;have N := Lib.hid X;clear X;rcases Nat.eq_zero_or_pos i with rfl | z
   ·have k : Hid (a = b) := Lib.hid (lij B9 tlB (by simpa using N.out))
    go_wp2;go_ret;exact ⟨_, rfl, congrArg (Value.int .i64) (show (0 : Int) = cmpN a b by rw [k.out, cNe]), j, rfl⟩
   ·obtain ⟨m, rfl⟩ : ∃ m, i = m + 1 := ⟨i - 1, by omega⟩
    have S : m < (lm B9 a).length := by omega
    have Y : m < (lm B9 b).length := by omega
    obtain ⟨ba, oa, rfl, _, Q⟩ := v (List.ne_nil_of_length_pos (by omega));obtain ⟨bb, ob, rfl, _, O⟩ := s (List.ne_nil_of_length_pos (by omega));have J := Q m S;have I := O m Y;clear Q O v s;obtain ⟨x, hx⟩ : ∃ x, (lm B9 a)[m] = x := ⟨_, rfl⟩;obtain ⟨y, hy⟩ : ∃ y, (lm B9 b)[m] = y := ⟨_, rfl⟩;rw [hx] at J;rw [hy] at I;have M := Lib.hid hx;have L := Lib.hid hy;clear hx hy;have E : ((m + 1 : Nat) : Int) - 1 = (m : Int) := by omega
    rw [E];clear E;have f1 : (0 : Int) <= (m : Int) := by omega
    have f2 : (m : Int) < (n : Int) := by omega
    rcases Nat.lt_trichotomy x y with V | V | V
    ·have r : ((x : Int) != (y : Int)) = true := by rw [bne_iff_ne]; omega
     have t2 : (x : Int) < (y : Int) := by omega
     have R := Lib.hid (cNl (otp S Y N.out (by rw [M.out, L.out]; exact V)));go_wp2_with fail;go_quiet (fail);go_wp2_with fail;go_quiet (fail);go_wp2;go_ret;exact ⟨_, rfl, congrArg (Value.int .i64) R.out.symm, dsp (dsp ⟨j, rfl⟩ _) _⟩
    ·subst V
     have r : ((x : Int) != (x : Int)) = false := by simp
     go_wp2_with fail;go_quiet (fail);go_wp2;go_roundw
     case rel => exact ⟨m, by omega, rfl, di0 S Y N.out (by rw [M.out, L.out]), _, rfl⟩
     case measure => simp [intOf]
    ·have r : ((x : Int) != (y : Int)) = true := by rw [bne_iff_ne]; omega
     have t2 : ¬ (x : Int) < (y : Int) := by omega
     have R := Lib.hid (cNg (otp Y S N.out.symm (by rw [M.out, L.out]; exact V)));go_wp2_with fail;go_quiet (fail);go_wp2_with fail;go_quiet (fail);go_wp2;go_ret;exact ⟨_, rfl, congrArg (Value.int .i64) R.out.symm, dsp (dsp ⟨j, rfl⟩ _) _⟩
 ·have R := Lib.hid (cNg (llo B9 b a tlB U))
  have K : (((lm B9 a).length : Int) != ((lm B9 b).length : Int)) = true := by rw [bne_iff_ne]; omega
  go_enter Tryz.func101, Tryz.ntmps101;go_wp2;go_ret;exact ⟨_, rfl, congrArg (Value.int .i64) R.out.symm, dzo _⟩
theorem cou (w : World) (x : Int) (E : Nat) : ∀ (j : Nat) (u : Value), [Value.int .u64 x][j]? = some u -> (w.alloc (.cells #[.int .u64 x] E)).cell? ((⟨w.heap.size, 0, none⟩ : Addr).add j) = some u := cell_one_new _ _ _
theorem ocu (x : Int) : ∀ u ∈ [Value.int .u64 x], u.oneCell' = true := by intro u Z; simp at Z; subst Z; rfl
theorem msu (l : List Nat) (x : Nat) : (l.map fun x : Nat => Value.int .u64 (x : Int)) ++ [Value.int .u64 (x : Int)] = (l ++ [x]).map fun x : Nat => Value.int .u64 (x : Int) := by simp
theorem bad {B : Nat} {w wr w2 : World} {e sz n : Nat} {v : Value} {xs : List Value} {o : Obj} (X : Below B w wr) (U : w.heap.size <= wr.heap.size) (Z : wr.ownsRow B e sz v n xs)
 (Y : (wr.alloc o).grownBy w2 v.ownBlock) (V : B <= w.heap.size := by exact Nat.le_refl _) : Below B w w2 :=
 (X.alloc (by omega) o).grown Y (by simp; omega) (fun k hk => (Z.lt k hk).1)
theorem prd {B c s v x y X Y P : Nat} (hx : x < B) (hy : y < B) (Q : c <= 1) (R : 2 <= B) (U : s = x + y + c) (O : v + c * P = X + Y) :
 s / B <= 1 /\ s % B < B /\ (v + s % B * P) + s / B * (P * B) = (X + x * P) + (Y + y * P) := by
 subst U;have Z : (x + y + c) / B <= 1 := by
  have : (x + y + c) / B < 2 := Nat.div_lt_of_lt_mul (by omega);omega
 refine ⟨Z, Nat.mod_lt _ (by omega), ?_⟩;have V := Nat.div_add_mod (x + y + c) B;generalize (x + y + c) / B = q at *;generalize (x + y + c) % B = r at *;have S : (B * q + r) * P = (x + y + c) * P := by rw [V]
 grind
theorem lts (B : Nat) (l : List Nat) (k : Nat) (h : k < l.length) : lval B (l.take (k + 1)) = lval B (l.take k) + l[k] * B ^ k := by
 rw [List.take_succ_eq_append_getElem h, lsc, List.length_take, Nat.min_eq_left (by omega)]
def PlusInv (x y o : List Nat) (k c : Nat) : Prop := o.length = k /\ (∀ z ∈ o, z < B9) /\ lval B9 o + c * B9 ^ k = lval B9 (x.take k) + lval B9 (y.take k)
theorem PlusInv.start (x y : List Nat) : PlusInv x y [] 0 0 := ⟨rfl, by simp, by simp [lval]⟩
theorem PlusInv.both {x y o : List Nat} {k c : Nat} (h : PlusInv x y o k c) (R : c <= 1) (hx : ∀ z ∈ x, z < B9) (hy : ∀ z ∈ y, z < B9)
 (V : k < x.length) (Z : k < y.length) : PlusInv x y (o ++ [(c + x[k] + y[k]) % B9]) (k + 1) ((c + x[k] + y[k]) / B9) /\ (c + x[k] + y[k]) / B9 <= 1 := by
 obtain ⟨X, U, S⟩ := h;obtain ⟨Q, O, N⟩ := prd (s := c + x[k] + y[k]) (hx _ (List.getElem_mem V)) (hy _ (List.getElem_mem Z)) R tlB (by omega) S;refine ⟨⟨by simp [X], ?_, ?_⟩, Q⟩
 ·intro z Y
  simp only [List.mem_append, List.mem_singleton] at Y;rcases Y with Y | rfl
  ·exact U z Y
  ·exact O
 ·rw [lsc, X, lts _ _ _ V, lts _ _ _ Z, Nat.pow_succ]
  exact N
theorem PlusInv.one {x y o : List Nat} {k c : Nat} (h : PlusInv x y o k c) (R : c <= 1) (hx : ∀ z ∈ x, z < B9)
 (V : k < x.length) (Y : y.length <= k) : PlusInv x y (o ++ [(c + x[k]) % B9]) (k + 1) ((c + x[k]) / B9) /\ (c + x[k]) / B9 <= 1 := by
 obtain ⟨X, U, S⟩ := h;obtain ⟨Q, O, N⟩ := prd (y := 0) (s := c + x[k]) (hx _ (List.getElem_mem V)) (by decide) R tlB (by omega) S;refine ⟨⟨by simp [X], ?_, ?_⟩, Q⟩
 ·intro z Z
  simp only [List.mem_append, List.mem_singleton] at Z;rcases Z with Z | rfl
  ·exact U z Z
  ·exact O
 ·rw [lsc, X, lts _ _ _ V, Nat.pow_succ, List.take_of_length_le (show y.length <= k + 1 by omega)]
  rw [List.take_of_length_le Y] at N;omega
theorem PlusInv.done {a b c : Nat} {o : List Nat} (h : PlusInv (lm B9 a) (lm B9 b) o (lm B9 a).length c) (S : c <= 1) (U : (lm B9 b).length <= (lm B9 a).length) :
 dropZ (o ++ [c]) = lm B9 (a + b) := by
 obtain ⟨Y, X, V⟩ := h;rw [dZe B9 tlB]
 ·congr 1
  rw [lsc, Y, V, List.take_of_length_le (Nat.le_refl _), List.take_of_length_le U, llm _ _ tlB, llm _ _ tlB]
 ·intro z Z
  simp only [List.mem_append, List.mem_singleton] at Z;rcases Z with Z | rfl
  ·exact X z Z
  ·have : (2 : Nat) <= B9 := tlB
   omega
theorem pc0 (w : World) (va vb : Value) (a b : Nat) (ha : Rd .u64 w va (lm B9 a)) (hb : Rd .u64 w vb (lm B9 b))
 (h2 : (lm B9 a).length <= 1000000) (h3 : (lm B9 b).length <= 1000000) :
 Calls Tryz.prog 99 #[va, vb] w (Ret (fun v w' => Rd .u64 w' v (lm B9 (a + b))) w) := by
 obtain ⟨i0, hi, B, A, z⟩ := info_parts Tryz.info_u64;rcases Nat.lt_or_ge (lm B9 a).length (lm B9 b).length with hw | h9
 case' inl =>
  obtain ⟨p, c, rfl, g, hm, hr⟩ := hb.open;obtain ⟨q, d, rfl, hd, hn, hs⟩ := ha.open;have HV : Hid (∀ o c, PlusInv (lm B9 b) (lm B9 a) o (lm B9 b).length c -> c <= 1 -> dropZ (o ++ [c]) = lm B9 (a + b)) := fun o c h g => by
   rw [Nat.add_comm]; exact h.done g (by omega)
  have HX := Lib.hid (lm_lt B9 b tlB);have HY := Lib.hid (lm_lt B9 a tlB);clear ha hb;generalize lm B9 (a + b) = R at *;generalize lm B9 b = x at *;generalize lm B9 a = y at *;have he : x.length <= 1000000 := h3;have hf : y.length <= 1000000 := h2;have hp : y.length <= x.length := by omega
 case' inr =>
  obtain ⟨p, c, rfl, g, hm, hr⟩ := ha.open;obtain ⟨q, d, rfl, hd, hn, hs⟩ := hb.open;have HV : Hid (∀ o c, PlusInv (lm B9 a) (lm B9 b) o (lm B9 a).length c -> c <= 1 -> dropZ (o ++ [c]) = lm B9 (a + b)) := fun o c h g => h.done g (by omega)
  have HX := Lib.hid (lm_lt B9 a tlB);have HY := Lib.hid (lm_lt B9 b tlB);clear ha hb;generalize lm B9 (a + b) = R at *;generalize lm B9 a = x at *;generalize lm B9 b = y at *;have he : x.length <= 1000000 := h2;have hf : y.length <= 1000000 := h3;have hp : y.length <= x.length := h9
 all_goals
  have hx : c <= 9223372036854775807 := hm;have hy : d <= 9223372036854775807 := hn;go_enter Tryz.func99, Tryz.ntmps99;go_wp2_with (first | (at_make; refine wpList_make_own _ rfl _ _ 162 rfl w.heap.size 193 i0 (.int .u64 0) 1 Tryz.underlying162 hi B A _ _ _ (x.length + 1) rfl rfl (by omega) (by rw [z]; omega) (by unfold maxLen; omega) (Nat.le_refl _) ?_; intro w1 Z h0));have h7 : Below w.heap.size w w1 := (Below.refl _ _).grown h0 (Nat.le_refl _) (fun k hk => by cases hk);clear h0;go_loopw [5, 6, 22] (fun t5 t6 t22 wr => ∃ (k N : Nat) (S : Int) (o : List Nat), k <= x.length /\ t22 = .int .i64 k /\ t6 = .int .u64 S /\ Hid (S = N) /\ 0 <= S /\ S <= 1 /\ PlusInv x y o k N /\ wr.ownsRow w.heap.size 193 1 t5 k (o.map fun x : Nat => Value.int .u64 (x : Int)) /\ Below w.heap.size w wr) (fun _ _ t22 _ => x.length - (intOf t22).toNat)
  case atStart => exact ⟨0, 0, 0, [], Nat.zero_le _, rfl, rfl, rfl, by omega, by omega, PlusInv.start x y, Z, h7⟩
  case round =>
   obtain ⟨k, N, S, o, hk, rfl, rfl, t, hu, hv, U, Z, X⟩ := hrel;rcases Nat.lt_or_ge k x.length with E | E
   ·have hg : x ≠ [] := List.ne_nil_of_length_pos (by omega)
    obtain ⟨b, off, rfl, h8, G⟩ := hr hg;have r := zcq X h8 (G k E);have hl : (x[k] : Int) < 1000000000 := by have := HX.out _ (List.getElem_mem E); unfold B9 at this; omega
    have h5 : 0 <= (x[k] : Int) := by omega
    obtain ⟨J, n⟩ : ∃ J, J = (x[k] : Int) := ⟨_, rfl⟩;rw [<- n] at r hl h5;have C := Lib.hid n;clear G hr n;rcases Nat.lt_or_ge k y.length with D | D
    ·have h4 : y ≠ [] := List.ne_nil_of_length_pos (by omega)
     obtain ⟨ht, hq, rfl, i, K⟩ := hs h4;have f := zcq X i (K k D);have ho : (y[k] : Int) < 1000000000 := by have := HY.out _ (List.getElem_mem D); unfold B9 at this; omega
     have h6 : 0 <= (y[k] : Int) := by omega
     obtain ⟨l, m⟩ : ∃ l, l = (y[k] : Int) := ⟨_, rfl⟩;rw [<- m] at f ho h6;have j := Lib.hid m;clear K hs m;have h1 : k <= 1000000 := by omega
     go_wp2_with (first | (at_builtin; refine wpList_append_own _ rfl _ _ 162 rfl w.heap.size 193 i0 (.int .u64 0) 1 8 Tryz.underlying162 hi B A z rfl (by decide) _ _ _ rfl (Z.alloc _) ⟨wr.heap.size, 0, none⟩ 1 1 [.int .u64 ((S + J + l) % 1000000000)] rfl rfl (cou _ _ _) (ocu _) (by unfold maxLen; omega) (by omega) (by have := X.size; simp; omega) ?_));intro v' w2 Y V _;have O : N <= 1 := by have := t.out; omega
     have M := U.both O HX.out HY.out E D;have s : Hid (((S + J + l) / 1000000000 : Int) = (((N + x[k] + y[k]) / B9 : Nat) : Int)) := by
      unfold Hid; rw [t.out, C.out, j.out]; unfold B9; omega
     have I : 0 <= (S + J + l) / 1000000000 := by omega
     have H : (S + J + l) / 1000000000 <= 1 := by omega
     have L : w2.ownsRow w.heap.size 193 1 v' (k + 1) ((o ++ [(N + x[k] + y[k]) % B9]).map fun x : Nat => Value.int .u64 (x : Int)) := by
      rw [<- msu];have e : ((S + J + l) % 1000000000 : Int) = (((N + x[k] + y[k]) % B9 : Nat) : Int) := by
       rw [t.out, C.out, j.out]; unfold B9; omega
      rw [<- e]; exact Y
     have Q := bad X X.size Z V;clear Y Z V X U r f;go_wp2;go_roundw
     case rel => exact ⟨k + 1, _, _, _, by omega, by go_num, rfl, s, I, H, M.1, L, Q⟩
     case measure => simp [intOf]; omega
    ·have h1 : k <= 1000000 := by omega
     go_wp2_with (first | (at_builtin; refine wpList_append_own _ rfl _ _ 162 rfl w.heap.size 193 i0 (.int .u64 0) 1 8 Tryz.underlying162 hi B A z rfl (by decide) _ _ _ rfl (Z.alloc _) ⟨wr.heap.size, 0, none⟩ 1 1 [.int .u64 ((S + J) % 1000000000)] rfl rfl (cou _ _ _) (ocu _) (by unfold maxLen; omega) (by omega) (by have := X.size; simp; omega) ?_));intro v' w2 Y V _;have O : N <= 1 := by have := t.out; omega
     have M := U.one O HX.out E D;have s : Hid (((S + J) / 1000000000 : Int) = (((N + x[k]) / B9 : Nat) : Int)) := by
      unfold Hid; rw [t.out, C.out]; unfold B9; omega
     have I : 0 <= (S + J) / 1000000000 := by omega
     have H : (S + J) / 1000000000 <= 1 := by omega
     have L : w2.ownsRow w.heap.size 193 1 v' (k + 1) ((o ++ [(N + x[k]) % B9]).map fun x : Nat => Value.int .u64 (x : Int)) := by
      rw [<- msu];have e : ((S + J) % 1000000000 : Int) = (((N + x[k]) % B9 : Nat) : Int) := by
       rw [t.out, C.out]; unfold B9; omega
      rw [<- e]; exact Y
     have Q := bad X X.size Z V;clear Y Z V X U r;go_wp2;go_roundw
     case rel => exact ⟨k + 1, _, _, _, by omega, by go_num, rfl, s, I, H, M.1, L, Q⟩
     case measure => simp [intOf]; omega
   ·have h1 : k <= 1000000 := by omega
    go_wp2_with (first | (at_builtin; refine wpList_append_own _ rfl _ _ 162 rfl w.heap.size 193 i0 (.int .u64 0) 1 8 Tryz.underlying162 hi B A z rfl (by decide) _ _ _ rfl (Z.alloc _) ⟨wr.heap.size, 0, none⟩ 1 1 [.int .u64 S] rfl rfl (cou _ _ _) (ocu _) (by unfold maxLen; omega) (by omega) (by have := X.size; simp; omega) ?_));intro v' w2 Y V _;obtain rfl : k = x.length := by omega
    have O : N <= 1 := by have := t.out; omega
    have HR : Hid (dropZ (o ++ [N]) = R) := HV.out o N U O;have hh : Rd .u64 w2 v' (o ++ [N]) := by
     refine Rd.of_owns (base := w.heap.size) (e := 193) (cs := (o.map fun x : Nat => Value.int .u64 (x : Int)) ++ [Value.int .u64 S]) ?_ ?_
     ·rw [t.out, msu]
     ·rw [List.length_append, U.1]; exact Y
    have Q := bad X X.size Z V;clear Y Z V X U;go_wp2_with (go_at_call 137; refine (tay _ _ _ hh).mono ?_; rintro e w3 ⟨v3, rfl, hj, rfl⟩);go_ret;exact ⟨_, rfl, HR.out ▸ hj, Q⟩
theorem ltg (B : Nat) (l : List Nat) (k : Nat) : lval B (l.take (k + 1)) = lval B (l.take k) + l.getD k 0 * B ^ k := by
 rcases Nat.lt_or_ge k l.length with h | h
 ·rw [lts B l k h]; simp [List.getD, h]
 ·rw [List.take_of_length_le (by omega), List.take_of_length_le h]; simp [List.getD, h]
def MinusInv (x y o : List Nat) (k c : Nat) : Prop := o.length = k /\ (∀ z ∈ o, z < B9) /\ lval B9 o + lval B9 (y.take k) = lval B9 (x.take k) + c * B9 ^ k \/ False
theorem MinusInv.start (x y : List Nat) : MinusInv x y [] 0 0 := Or.inl ⟨rfl, by simp, by simp [lval]⟩
theorem MinusInv.step {x y o : List Nat} {k c d c' : Nat} (h : MinusInv x y o k c) (S : d < B9) (R : d + (c + y.getD k 0) = x.getD k 0 + c' * B9) :
 MinusInv x y (o ++ [d]) (k + 1) c' := by
 rcases h with ⟨V, U, Q⟩ | h
 ·refine Or.inl ⟨by simp [V], ?_, ?_⟩
  ·intro z Z
   simp only [List.mem_append, List.mem_singleton] at Z;rcases Z with Z | rfl
   ·exact U z Z
   ·exact S
  ·rw [lsc, V, ltg, ltg, Nat.pow_succ]
   generalize B9 ^ k = P at *;generalize x.getD k 0 = X at *;generalize y.getD k 0 = Y at *;have O : (d + (c + Y)) * P = (X + c' * B9) * P := by rw [R]
   grind
 ·exact h.elim
theorem MinusInv.done {a b c : Nat} {o : List Nat} (h : MinusInv (lm B9 a) (lm B9 b) o (lm B9 a).length c) (U : b <= a) (R : (lm B9 b).length <= (lm B9 a).length) :
 dropZ o = lm B9 (a - b) := by
 rcases h with ⟨Y, Z, X⟩ | h
 ·rw [dZe B9 tlB _ Z]
  congr 1;have V := llt B9 o Z;rw [Y] at V;rw [List.take_of_length_le (Nat.le_refl _), List.take_of_length_le R, llm _ _ tlB, llm _ _ tlB] at X;generalize B9 ^ (lm B9 a).length = P at *;rcases Nat.eq_zero_or_pos c with rfl | S
  ·omega
  ·have : 1 * P <= c * P := Nat.mul_le_mul_right _ S
   omega
 ·exact h.elim
theorem mfl (w : World) (va vb : Value) (a b : Nat) (ha : Rd .u64 w va (lm B9 a)) (hb : Rd .u64 w vb (lm B9 b)) (i : b <= a)
 (hv : (lm B9 a).length <= 1000000) :
 Calls Tryz.prog 102 #[va, vb] w (Ret (fun v w' => Rd .u64 w' v (lm B9 (a - b)) /\ FreshV w.heap.size v) w) := by
 obtain ⟨i0, hi, B, A, z⟩ := info_parts Tryz.info_u64;have he : (lm B9 b).length <= (lm B9 a).length := by
  rcases Nat.lt_or_ge (lm B9 a).length (lm B9 b).length with h | h
  ·have := llo B9 a b tlB h; omega
  ·exact h
 obtain ⟨p, c, rfl, hc, hm, hr⟩ := ha.open;obtain ⟨q, d, rfl, hd, hn, hs⟩ := hb.open;have HV : Hid (∀ o c, MinusInv (lm B9 a) (lm B9 b) o (lm B9 a).length c -> dropZ o = lm B9 (a - b)) := fun o c h => h.done i he;have HX := Lib.hid (lm_lt B9 a tlB);have HY := Lib.hid (lm_lt B9 b tlB);clear ha hb i;generalize lm B9 (a - b) = R at *;generalize lm B9 a = x at *;generalize lm B9 b = y at *;have hw : c <= 9223372036854775807 := hm;have hx : d <= 9223372036854775807 := hn;go_enter Tryz.func102, Tryz.ntmps102;go_wp2_with (first | (at_make; refine wpList_make_own _ rfl _ _ 162 rfl w.heap.size 193 i0 (.int .u64 0) 1 Tryz.underlying162 hi B A _ _ _ x.length rfl rfl rfl (by rw [z]; omega) (by unfold maxLen; omega) (Nat.le_refl _) ?_; intro w1 Z f));have h5 : Below w.heap.size w w1 := (Below.refl _ _).grown f (Nat.le_refl _) (fun k hk => by cases hk);clear f;go_loopw [5, 6, 15] (fun t5 t6 t15 wr => ∃ (k cy : Nat) (S : Int) (o : List Nat), k <= x.length /\ t15 = .int .i64 k /\ t6 = .int .u64 S /\ Hid (S = cy) /\ 0 <= S /\ S <= 1 /\ MinusInv x y o k cy /\ wr.ownsRow w.heap.size 193 1 t5 k (o.map fun x : Nat => Value.int .u64 (x : Int)) /\ Below w.heap.size w wr) (fun _ _ t15 _ => x.length - (intOf t15).toNat)
 case atStart => exact ⟨0, 0, 0, [], Nat.zero_le _, rfl, rfl, rfl, by omega, by omega, MinusInv.start x y, Z, h5⟩
 case round =>
  obtain ⟨k, cy, S, o, hk, rfl, rfl, HC, hq, ht, U, Z, X⟩ := hrel;have hu : k <= 1000000 := by omega
  rcases Nat.lt_or_ge k x.length with s | s
  ·have hf : x ≠ [] := List.ne_nil_of_length_pos (by omega)
   obtain ⟨b, off, rfl, h6, D⟩ := hr hf;have E := zcq X h6 (D k s);have hj : (x[k] : Int) < 1000000000 := by have := HX.out _ (List.getElem_mem s); unfold B9 at this; omega
   have h3 : 0 <= (x[k] : Int) := by omega
   obtain ⟨N, n⟩ : ∃ N, N = (x[k] : Int) := ⟨_, rfl⟩;rw [<- n] at E hj h3;have t : Hid (N = ((x.getD k 0 : Nat) : Int)) := by unfold Hid; rw [n]; simp [List.getD, s]
   clear D hr n;rcases Nat.lt_or_ge k y.length with C | C
   ·have h0 : y ≠ [] := List.ne_nil_of_length_pos (by omega)
    obtain ⟨hp, ho, rfl, g, H⟩ := hs h0;have h7 := zcq X g (H k C);have hl : (y[k] : Int) < 1000000000 := by have := HY.out _ (List.getElem_mem C); unfold B9 at this; omega
    have h4 : 0 <= (y[k] : Int) := by omega
    obtain ⟨J, m⟩ : ∃ J, J = (y[k] : Int) := ⟨_, rfl⟩;rw [<- m] at h7 hl h4;have G : Hid (J = ((y.getD k 0 : Nat) : Int)) := by unfold Hid; rw [m]; simp [List.getD, C]
    clear H hs m;by_cases hcmp : N < S + J
    ·have r : N < (S + J) := hcmp
     clear hcmp;have I : 0 <= N + 1000000000 - (S + J) /\ N + 1000000000 - (S + J) < 1000000000 := by omega
     go_wp2_with (first | (at_builtin; refine wpList_append_own _ rfl _ _ 162 rfl w.heap.size 193 i0 (.int .u64 0) 1 8 Tryz.underlying162 hi B A z rfl (by decide) _ _ _ rfl (Z.alloc _) ⟨wr.heap.size, 0, none⟩ 1 1 [.int .u64 (N + 1000000000 - (S + J))] rfl rfl (cou _ _ _) (ocu _) (by unfold maxLen; omega) (by omega) (by have := X.size; simp; omega) ?_));intro l j Y V _;obtain ⟨K, L⟩ : ∃ K : Nat, N + 1000000000 - (S + J) = (K : Int) := ⟨(N + 1000000000 - (S + J)).toNat, by omega⟩;have Q := U.step (d := K) (c' := 1) (by unfold B9; omega) (by have e1 := HC.out; have e2 := t.out; have e3 := G.out; unfold B9; omega);have O : j.ownsRow w.heap.size 193 1 l (k + 1) ((o ++ [K]).map fun x : Nat => Value.int .u64 (x : Int)) := by
      rw [<- msu, <- L]; exact Y
     have M := bad X X.size Z V;clear Y Z V X U E L I;go_wp2;go_roundw
     case rel => exact ⟨k + 1, 1, 1, _, by omega, by go_num, rfl, rfl, by omega, by omega, Q, O, M⟩
     case measure => simp [intOf]; omega
    ·have r : ¬ N < (S + J) := by omega
     clear hcmp;have I : 0 <= N - (S + J) /\ N - (S + J) < 1000000000 := by omega
     go_wp2_with (first | (at_builtin; refine wpList_append_own _ rfl _ _ 162 rfl w.heap.size 193 i0 (.int .u64 0) 1 8 Tryz.underlying162 hi B A z rfl (by decide) _ _ _ rfl (Z.alloc _) ⟨wr.heap.size, 0, none⟩ 1 1 [.int .u64 (N - (S + J))] rfl rfl (cou _ _ _) (ocu _) (by unfold maxLen; omega) (by omega) (by have := X.size; simp; omega) ?_));intro l j Y V _;obtain ⟨K, L⟩ : ∃ K : Nat, N - (S + J) = (K : Int) := ⟨(N - (S + J)).toNat, by omega⟩;have Q := U.step (d := K) (c' := 0) (by unfold B9; omega) (by have e1 := HC.out; have e2 := t.out; have e3 := G.out; unfold B9; omega);have O : j.ownsRow w.heap.size 193 1 l (k + 1) ((o ++ [K]).map fun x : Nat => Value.int .u64 (x : Int)) := by
      rw [<- msu, <- L]; exact Y
     have M := bad X X.size Z V;clear Y Z V X U E L I;go_wp2;go_roundw
     case rel => exact ⟨k + 1, 0, 0, _, by omega, by go_num, rfl, rfl, by omega, by omega, Q, O, M⟩
     case measure => simp [intOf]; omega
   ·have G : Hid (((y.getD k 0 : Nat) : Int) = 0) := by unfold Hid; simp [List.getD, C]
    clear hs;by_cases hcmp : N < S
    ·have r : N < S := hcmp
     clear hcmp;have I : 0 <= N + 1000000000 - S /\ N + 1000000000 - S < 1000000000 := by omega
     go_wp2_with (first | (at_builtin; refine wpList_append_own _ rfl _ _ 162 rfl w.heap.size 193 i0 (.int .u64 0) 1 8 Tryz.underlying162 hi B A z rfl (by decide) _ _ _ rfl (Z.alloc _) ⟨wr.heap.size, 0, none⟩ 1 1 [.int .u64 (N + 1000000000 - S)] rfl rfl (cou _ _ _) (ocu _) (by unfold maxLen; omega) (by omega) (by have := X.size; simp; omega) ?_));intro l j Y V _;obtain ⟨K, L⟩ : ∃ K : Nat, N + 1000000000 - S = (K : Int) := ⟨(N + 1000000000 - S).toNat, by omega⟩;have Q := U.step (d := K) (c' := 1) (by unfold B9; omega) (by have e1 := HC.out; have e2 := t.out; have e3 := G.out; unfold B9; omega);have O : j.ownsRow w.heap.size 193 1 l (k + 1) ((o ++ [K]).map fun x : Nat => Value.int .u64 (x : Int)) := by
      rw [<- msu, <- L]; exact Y
     have M := bad X X.size Z V;clear Y Z V X U E L I;go_wp2;go_roundw
     case rel => exact ⟨k + 1, 1, 1, _, by omega, by go_num, rfl, rfl, by omega, by omega, Q, O, M⟩
     case measure => simp [intOf]; omega
    ·have r : ¬ N < S := by omega
     clear hcmp;have I : 0 <= N - S /\ N - S < 1000000000 := by omega
     go_wp2_with (first | (at_builtin; refine wpList_append_own _ rfl _ _ 162 rfl w.heap.size 193 i0 (.int .u64 0) 1 8 Tryz.underlying162 hi B A z rfl (by decide) _ _ _ rfl (Z.alloc _) ⟨wr.heap.size, 0, none⟩ 1 1 [.int .u64 (N - S)] rfl rfl (cou _ _ _) (ocu _) (by unfold maxLen; omega) (by omega) (by have := X.size; simp; omega) ?_));intro l j Y V _;obtain ⟨K, L⟩ : ∃ K : Nat, N - S = (K : Int) := ⟨(N - S).toNat, by omega⟩;have Q := U.step (d := K) (c' := 0) (by unfold B9; omega) (by have e1 := HC.out; have e2 := t.out; have e3 := G.out; unfold B9; omega);have O : j.ownsRow w.heap.size 193 1 l (k + 1) ((o ++ [K]).map fun x : Nat => Value.int .u64 (x : Int)) := by
      rw [<- msu, <- L]; exact Y
     have M := bad X X.size Z V;clear Y Z V X U E L I;go_wp2;go_roundw
     case rel => exact ⟨k + 1, 0, 0, _, by omega, by go_num, rfl, rfl, by omega, by omega, Q, O, M⟩
     case measure => simp [intOf]; omega
  ·obtain rfl : k = x.length := by omega
   have HR : Hid (dropZ o = R) := HV.out o cy U;have hg : Hid (o.length = x.length) := by
    rcases U with h | h
    ·exact h.1
    ·exact h.elim
   have h1 : ∀ t5, wr.ownsRow w.heap.size 193 1 t5 x.length (o.map fun x : Nat => Value.int .u64 (x : Int)) -> Rd .u64 wr t5 o := fun t5 h => by
    refine Rd.of_owns (base := w.heap.size) (e := 193) rfl ?_;rw [hg.out]; exact h
   have h2 := h1 _ Z;have h9 := FreshV.of_owns Z;clear h1 Z U;go_wp2_with (go_at_call 137; refine (tfl _ _ _ h2).mono ?_; rintro e w3 ⟨v3, rfl, ⟨hh, h8⟩, rfl⟩);go_ret;exact ⟨_, rfl, ⟨HR.out ▸ hh, h8 _ h9⟩, X⟩
theorem mb0 (w : World) (X V : Value) (a b : Nat) (U : Rd .u64 w X (lm B9 a)) (S : Rd .u64 w V (lm B9 b)) (Z : b <= a)
 (Y : (lm B9 a).length <= 1000000) :
 Calls Tryz.prog 102 #[X, V] w (Ret (fun v w' => Rd .u64 w' v (lm B9 (a - b))) w) :=
 (mfl w X V a b U S Z Y).mono fun _ _ ⟨v', he, hv, hw⟩ => ⟨v', he, hv.1, hw⟩
def Arr (k : IntKind) (w : World) (g E : Nat) (o : List Nat) : Prop := w.heap[g]? = some (.cells (o.map fun x : Nat => Value.int k (x : Int)).toArray E (0, 0))
theorem Arr.cell {k : IntKind} {w : World} {g E : Nat} {o : List Nat} (h : Arr k w g E o) (j : Nat) (Z : j < o.length) : w.cell? ⟨g, j, none⟩ = some (.int k ((o[j] : Nat) : Int)) := by
 rw [cell_of_row w g j _ E (0, 0) h];simp [Z]
theorem Arr.frozen {k : IntKind} {w : World} {g E : Nat} {o : List Nat} (h : Arr k w g E o) (j : Nat) : w.frozen? ⟨g, j, none⟩ = false := by
 unfold World.frozen?;rw [h];simp
theorem Arr.lt {k : IntKind} {w : World} {g E : Nat} {o : List Nat} (h : Arr k w g E o) : g < w.heap.size := (Array.getElem?_eq_some_iff.1 h).1
theorem Arr.set {k : IntKind} {w : World} {g E : Nat} {o : List Nat} (h : Arr k w g E o) (j v : Nat) {u : Value} (Z : u = .int k (v : Int)) : Arr k (w.setCell ⟨g, j, none⟩ u) g E (o.set j v) := by
 subst Z;unfold Arr at *;have X : g < w.heap.size := (Array.getElem?_eq_some_iff.1 h).1;have Y := (Array.getElem?_eq_some_iff.1 h).2;simp only [World.setCell, Array.getElem?_modify, if_pos, h, Option.map_some];simp [List.map_set]
theorem Arr.rd {k : IntKind} {w : World} {g E : Nat} {o : List Nat} (h : Arr k w g E o) (Y : o.length <= maxLen) : Rd k w (.slice (some ⟨g, 0, none⟩) o.length o.length) o := by
 refine ⟨_, _, rfl, Nat.le_refl _, Y, by simp, fun _ => ⟨g, 0, rfl, fun i x hx => ?_⟩⟩;have Z : i < o.length := by have := (List.getElem?_eq_some_iff.1 hx).1; simpa using this
 rw [Nat.zero_add, h.cell i Z];simp [Z] at hx;rw [hx]
theorem Arr.drewN {k : IntKind} {w : World} {g E : Nat} {o : List Nat} (h : Arr k w g E o) (n : Nat) : Arr k (w.drewN n) g E o := h
theorem Arr.of_full {k : IntKind} {w : World} {base g E n : Nat} {z : Value} (O : z = .int k 0) (h : w.ownsRow base E 1 (.slice (some ⟨g, 0, none⟩) n n) n (madeCells z.cells (n * 1)).toList) :
 Arr k w g E (List.replicate n 0) := by
 subst O;obtain ⟨M, Z⟩ := h;rcases Z with ⟨Z, _⟩ | ⟨N, cap, X, Q, J, S, R, V, U, Y⟩
 ·cases Z
 ·cases Q
  unfold Arr;rw [S];congr 2;rw [List.take_of_length_le (by simp; omega)] at Y;apply Array.toList_inj.1;rw [Y];apply List.ext_getElem
  ·simp [size_madeCells]
  ·intro i L K
   simp [madeCells, Value.cells, Nat.mod_one]
theorem lst (B : Nat) (o : List Nat) (j v : Nat) (Z : j < o.length) : lval B (o.set j v) + o[j] * B ^ j = lval B o + v * B ^ j := by
 induction o generalizing j with
 | nil => simp at Z
 | cons x o ih =>
   cases j with
   | zero => simp [lval]; omega
   | succ j =>
     have := ih j (by simpa using Z);simp only [List.set_cons_succ, lval, List.getElem_cons_succ, Nat.pow_succ];grind
theorem lre (B n : Nat) : lval B (List.replicate n 0) = 0 := by
 induction n with
 | zero => rfl
 | succ n ih => simp [List.replicate_succ, lval, ih]
def Lt9 (o : List Nat) : Prop := ∀ z ∈ o, z < B9
theorem Lt9.set {o : List Nat} (h : Lt9 o) (j v : Nat) (Y : v < B9) : Lt9 (o.set j v) := by
 intro z X;rcases List.mem_or_eq_of_mem_set X with Z | Z
 ·exact h z Z
 ·rw [Z]; exact Y
theorem Lt9.replicate (n : Nat) : Lt9 (List.replicate n 0) := by
 intro z Z; rw [List.eq_of_mem_replicate Z]; decide
theorem trd {o : List Nat} {j x y c s : Nat} (Y : Lt9 o) (Z : j < o.length) (hx : x < B9) (hy : y < B9) (N : c < B9) (S : s = c + (o[j] + x * y)) :
 s / B9 < B9 /\ Lt9 (o.set j (s % B9)) /\ lval B9 (o.set j (s % B9)) + s / B9 * B9 ^ (j + 1) = lval B9 o + c * B9 ^ j + x * y * B9 ^ j := by
 have U := Y _ (List.getElem_mem Z);have R : x * y <= 999999999 * 999999999 := Nat.mul_le_mul (by unfold B9 at hx; omega) (by unfold B9 at hy; omega);refine ⟨?_, Y.set j _ (Nat.mod_lt _ (by omega)), ?_⟩
 ·apply Nat.div_lt_of_lt_mul
  unfold B9 at *;omega
 ·have Q := lst B9 o j (s % B9) Z
  have X := Nat.div_add_mod s B9;rw [Nat.pow_succ];generalize lval B9 (o.set j (s % B9)) = V at *;generalize s / B9 = q at *;generalize s % B9 = r at *;generalize B9 ^ j = P at *;generalize o[j] = oj at *;have O : (B9 * q + r) * P = (c + (oj + x * y)) * P := by rw [X, S]
  grind
def TimesIn (o0 y : List Nat) (x i k c : Nat) (o : List Nat) : Prop :=
 o.length = o0.length /\ Lt9 o /\ c < B9 /\ lval B9 o + c * B9 ^ (i + k) = lval B9 o0 + x * lval B9 (y.take k) * B9 ^ i
theorem TimesIn.start {o0 y : List Nat} {x i : Nat} (h : Lt9 o0) : TimesIn o0 y x i 0 0 o0 := ⟨rfl, h, by decide, by simp [lval]⟩
theorem TimesIn.step {o0 y o : List Nat} {x i k c s : Nat} (h : TimesIn o0 y x i k c o) (U : i + k < o.length) (hx : x < B9) (S : k < y.length) (hy : y[k] < B9)
 (R : s = c + (o[i + k] + x * y[k])) : TimesIn o0 y x i (k + 1) (s / B9) (o.set (i + k) (s % B9)) := by
 obtain ⟨Z, Y, X, V⟩ := h;obtain ⟨Q, O, N⟩ := trd Y U hx hy X R;refine ⟨by simp [Z], O, Q, ?_⟩;rw [show i + (k + 1) = i + k + 1 by omega, N, V, lts B9 y k S, Nat.pow_add];grind
def TimesUp (o0 : List Nat) (v k c : Nat) (o : List Nat) : Prop := o.length = o0.length /\ Lt9 o /\ c < B9 /\ lval B9 o + c * B9 ^ k = v
theorem TimesUp.step {o0 o : List Nat} {v k c s : Nat} (h : TimesUp o0 v k c o) (U : k < o.length) (O : s = c + o[k]) : TimesUp o0 v (k + 1) (s / B9) (o.set k (s % B9)) := by
 obtain ⟨Z, Y, X, V⟩ := h;obtain ⟨S, R, Q⟩ := trd (x := 0) (y := 0) Y U (by decide) (by decide) X (by omega);exact ⟨by simp [Z], R, S, by rw [Q, V]; simp⟩
theorem TimesUp.room {o0 o : List Nat} {v k c n : Nat} (h : TimesUp o0 v k c o) (R : v < B9 ^ n) (Y : 0 < c) : k < n := by
 obtain ⟨X, V, U, S⟩ := h;have : 1 * B9 ^ k <= c * B9 ^ k := Nat.mul_le_mul_right _ Y;have Z : B9 ^ k < B9 ^ n := by omega
 exact (Nat.pow_lt_pow_iff_right (by decide)).1 Z
theorem tbd (a b i : Nat) : lval B9 ((lm B9 a).take i) * b < B9 ^ ((lm B9 a).length + (lm B9 b).length) := by
 have Z : lval B9 ((lm B9 a).take i) < B9 ^ (lm B9 a).length := by
  refine Nat.lt_of_lt_of_le (llt B9 _ (fun x hx => lm_lt B9 a tlB x (List.mem_of_mem_take hx))) (Nat.pow_le_pow_right (by decide) ?_);rw [List.length_take]; omega
 have Y := lll B9 b tlB;rw [Nat.pow_add];rcases Nat.eq_zero_or_pos b with rfl | X
 ·rw [Nat.mul_zero]; exact Nat.mul_pos (Nat.pow_pos (by decide)) (Nat.pow_pos (by decide))
 ·exact Nat.mul_lt_mul_of_lt_of_le Z (Nat.le_of_lt Y) (Nat.pow_pos (by decide))
theorem td0 (w : World) (va vb : Value) (a b : Nat) (ha : Rd .u64 w va (lm B9 a)) (hb : Rd .u64 w vb (lm B9 b))
 (hZ : (lm B9 a).length <= 1000000) (z0 : (lm B9 b).length <= 1000000) :
 Calls Tryz.prog 103 #[va, vb] w (Ret (fun v w' => Rd .u64 w' v (lm B9 (a * b))) w) := by
 obtain ⟨i0, hi, hN, hO, hP⟩ := info_parts Tryz.info_u64;obtain ⟨p, c, rfl, hc, hm, hr⟩ := ha.open;obtain ⟨q, d, rfl, hd, hn, hs⟩ := hb.open;have HB := Lib.hid (tbd a b);have HX := Lib.hid (lm_lt B9 a tlB);have HY := Lib.hid (lm_lt B9 b tlB);have hB := Lib.hid (llm B9 a tlB);have hC := Lib.hid (llm B9 b tlB);clear ha hb;generalize lm B9 a = x at *;generalize lm B9 b = y at *;have z1 : c <= 9223372036854775807 := hm;have z2 : d <= 9223372036854775807 := hn;obtain ⟨n, hg⟩ : ∃ n, n = x.length + y.length + 1 := ⟨_, rfl⟩;have HN := Lib.hid hg;have z3 : n <= x.length + y.length + 1 := by omega
 have z4 : x.length + y.length + 1 <= n := by omega
 clear hg;go_enter Tryz.func103, Tryz.ntmps103;go_wp2_with (first | (at_make; refine wpList_make_full _ rfl _ _ 162 rfl w.heap.size 193 i0 (.int .u64 0) 1 Tryz.underlying162 hi hN hO _ _ _ _ n rfl rfl (by omega) (by omega) (by rw [hP]; omega) (by unfold maxLen; omega) (Nat.le_refl _) ?_; intro w1 t hf));have Z := Arr.of_full rfl t;have hE : Below w.heap.size w w1 := (Below.refl _ _).grown hf (Nat.le_refl _) (fun k hk => by cases hk);clear hf t;go_loopw [21] (fun t21 wr => ∃ (i : Nat) (o : List Nat), i <= x.length /\ t21 = .int .i64 i /\ o.length = n /\ Lt9 o /\ Hid (lval B9 o = lval B9 (x.take i) * b) /\ Arr .u64 wr w.heap.size 193 o /\ Below w.heap.size w wr) (fun t21 _ => x.length - (intOf t21).toNat)
 case atStart => exact ⟨0, List.replicate n 0, Nat.zero_le _, rfl, by simp, Lt9.replicate n, by unfold Hid; rw [lre]; simp [lval], Z, hE⟩
 case round =>
  obtain ⟨i, o, hi, rfl, h0, hj, h5, Z, X⟩ := hrel;rcases Nat.lt_or_ge i x.length with H | H
  ·have hJ : x ≠ [] := List.ne_nil_of_length_pos (by omega)
   obtain ⟨bx, off, rfl, hF, I⟩ := hr hJ;have he := zcq X hF (I i H);have hM : (x[i] : Int) < 1000000000 := by have := HX.out _ (List.getElem_mem H); unfold B9 at this; omega
   have r : 0 <= (x[i] : Int) := by omega
   obtain ⟨C, h6⟩ : ∃ C, C = (x[i] : Int) := ⟨_, rfl⟩;rw [<- h6] at he hM r;have hD := Lib.hid h6;clear I hr h6;go_wp2;obtain ⟨wo, hL⟩ : ∃ wo : World, wo = wr := ⟨_, rfl⟩;subst hL;have hv : x[i] < B9 := HX.out _ (List.getElem_mem H);go_loopw [8, 28] (fun t8 t28 wr => ∃ (k L : Nat) (U : Int) (S : List Nat), k <= y.length /\ t28 = .int .i64 k /\ t8 = .int .u64 U /\ Hid (U = L) /\ 0 <= U /\ U < 1000000000 /\ TimesIn o y x[i] i k L S /\ Arr .u64 wr w.heap.size 193 S /\ Below w.heap.size w wr) (fun _ t28 _ => y.length - (intOf t28).toNat)
   case atStart => exact ⟨0, 0, 0, o, Nat.zero_le _, rfl, rfl, rfl, by omega, by omega, TimesIn.start hj, Z, X⟩
   case round =>
    clear X Z he;obtain ⟨k, L, U, S, hk, rfl, rfl, l, j, f, Y, Z, X⟩ := hrel;have R : S.length = n := Y.1.trans h0;rcases Nat.lt_or_ge k y.length with B | B
    ·have hh : y ≠ [] := List.ne_nil_of_length_pos (by omega)
     obtain ⟨bY, hS, rfl, h9, M⟩ := hs hh;have hG := zcq X h9 (M k B);have h7 : y[k] < B9 := HY.out _ (List.getElem_mem B);have Q : i + k < S.length := by omega
     have g := Z.cell (i + k) Q;have hH := Z.frozen (i + k);have G : S[i + k] < B9 := Y.2.1 _ (List.getElem_mem Q);obtain ⟨K, h8⟩ : ∃ K, K = (y[k] : Int) := ⟨_, rfl⟩;obtain ⟨ok, O⟩ : ∃ ok, ok = (S[i + k] : Int) := ⟨_, rfl⟩;rw [<- h8] at hG;rw [<- O] at g;have m : 0 <= K /\ K < 1000000000 := by unfold B9 at h7; omega
     have hl : 0 <= ok /\ ok < 1000000000 := by unfold B9 at G; omega
     have hQ : 0 <= C * K := Int.mul_nonneg r m.1;have hw : C * K <= 999999999 * 999999999 := Int.mul_le_mul (by omega) (by omega) m.1 (by omega);have hR : C * K <= 999999998000000001 := by omega
     have hW : i + k < n := by omega
     have hU : i <= 1000000 := by omega
     have hX : k <= 1000000 := by omega
     obtain ⟨s, N⟩ : ∃ s, s = L + (S[i + k] + x[i] * y[k]) := ⟨_, rfl⟩;have HS := Lib.hid (Y.step (s := s) Q hv B h7 N);have J : Hid (U + (ok + C * K) = (s : Int)) := by
      unfold Hid; rw [l.out, O, h8, hD.out, N]; push_cast; rfl
     have HQ : Hid ((U + (ok + C * K)) / 1000000000 = ((s / B9 : Nat) : Int)) := by unfold Hid; rw [J.out]; unfold B9; omega
     have HM : Hid ((U + (ok + C * K)) % 1000000000 = ((s % B9 : Nat) : Int)) := by unfold Hid; rw [J.out]; unfold B9; omega
     have E : 0 <= (U + (ok + C * K)) / 1000000000 /\ (U + (ok + C * K)) / 1000000000 < 1000000000 := by omega
     clear M hs h8 O hw R G h7 Y N;go_wp2;go_roundw
     case rel => exact ⟨k + 1, _, _, _, by omega, by go_num, rfl, HQ, E.1, E.2, HS.out, Z.set (i + k) _ (by rw [HM.out]), X.setCell (Nat.le_refl _) _⟩
     case measure => simp [intOf]; omega
    ·have z : k = y.length := by omega
     obtain ⟨V, hV⟩ : ∃ V, V = lval B9 (x.take (i + 1)) * b := ⟨_, rfl⟩;have hA : Hid (V = lval B9 (x.take (i + 1)) * b) := hV;have ht : TimesUp o V (i + y.length) L S := by
      obtain ⟨h1, h2, h3, h4⟩ := Y;refine ⟨h1, h2, h3, ?_⟩;rw [z, List.take_of_length_le (Nat.le_refl _), hC.out, h5.out] at h4;rw [h4, hV, lts B9 x i H];grind
     have D : ∀ kk cc o2, TimesUp o V kk cc o2 -> 0 < cc -> kk < n := fun kk cc o2 h hc => by
      have := h.room (n := x.length + y.length) (by rw [hV]; exact HB.out (i + 1)) hc;omega
     have hy := Lib.hid D;clear hs Y z hV D hv;go_wp2;obtain ⟨z5, hu⟩ : ∃ wo : World, wo = wr := ⟨_, rfl⟩;subst hu;go_loopw [8, 11] (fun t8 t11 wr => ∃ (k L : Nat) (U : Int) (S : List Nat), t11 = .int .i64 k /\ k <= n + n /\ t8 = .int .u64 U /\ Hid (U = L) /\ 0 <= U /\ U < 1000000000 /\ TimesUp o V k L S /\ Arr .u64 wr w.heap.size 193 S /\ Below w.heap.size w wr) (fun _ t11 _ => n + n - (intOf t11).toNat)
     case atStart => exact ⟨i + y.length, L, U, S, by go_num, by omega, rfl, l, j, f, ht, Z, X⟩
     case round =>
      clear X Z l j f ht hk;obtain ⟨k, L, U, S, rfl, hk, rfl, l, j, f, Y, Z, X⟩ := hrel;have R : S.length = n := Y.1.trans h0;by_cases hz : 0 < U
      ·have hY : k < n := hy.out k L S Y (by have := l.out; omega)
       have Q : k < S.length := by omega
       have g := Z.cell k Q;have hH := Z.frozen k;have G : S[k] < B9 := Y.2.1 _ (List.getElem_mem Q);obtain ⟨ok, O⟩ : ∃ ok, ok = (S[k] : Int) := ⟨_, rfl⟩;rw [<- O] at g;have hl : 0 <= ok /\ ok < 1000000000 := by unfold B9 at G; omega
       obtain ⟨s, N⟩ : ∃ s, s = L + S[k] := ⟨_, rfl⟩;have HS := Lib.hid (Y.step (s := s) Q N);have J : Hid (U + ok = (s : Int)) := by unfold Hid; rw [l.out, O, N]; push_cast; rfl
       have HQ : Hid ((U + ok) / 1000000000 = ((s / B9 : Nat) : Int)) := by unfold Hid; rw [J.out]; unfold B9; omega
       have HM : Hid ((U + ok) % 1000000000 = ((s % B9 : Nat) : Int)) := by unfold Hid; rw [J.out]; unfold B9; omega
       have E : 0 <= (U + ok) / 1000000000 /\ (U + ok) / 1000000000 < 1000000000 := by omega
       clear O R G Y N;go_wp2;go_roundw
       case rel => exact ⟨k + 1, _, _, _, by go_num, by omega, rfl, HQ, E.1, E.2, HS.out, Z.set k _ (by rw [HM.out]), X.setCell (Nat.le_refl _) _⟩
       case measure => simp [intOf]; omega
      ·have A : L = 0 := by have := l.out; omega
       have hp : Hid (lval B9 S = lval B9 (x.take (i + 1)) * b) := by
        obtain ⟨h1, h2, h3, h4⟩ := Y;rw [A, Nat.zero_mul, Nat.add_zero] at h4;unfold Hid; rw [h4, hA.out]
       have ho := Y.2.1;have hx := Lib.hid R;clear A Y R;go_wp2;go_roundw
       case rel => exact ⟨i + 1, S, by omega, by go_num, hx.out, ho, hp, Z, X⟩
       case measure => simp [intOf]; omega
  ·have hT : i = x.length := by omega
   have HR : Hid (dropZ o = lm B9 (a * b)) := by
    unfold Hid;rw [dZe B9 tlB o hj, h5.out, List.take_of_length_le (by omega), hB.out]
   have hq := Z.rd (by unfold maxLen; omega);rw [h0] at hq;clear Z h5;go_wp2_with (go_at_call 137; refine (tay _ _ _ hq).mono ?_; rintro e w3 ⟨v3, rfl, hK, rfl⟩);go_ret;exact ⟨_, rfl, HR.out ▸ hK, X⟩
theorem si0 (w : World) (M : Value) (a d : Nat) (Y : Int) (Z : Y = (d : Int)) (L : Rd .u64 w M (lm B9 a)) (R : (lm B9 a).length <= 1000000) (I : d < B9) :
 Calls Tryz.prog 170 #[M, .int .u64 Y] w (Ret (fun v w' => Rd .u64 w' v (lm B9 (a * d))) w) := by
 have J := Lib.hid Z;have K : Hid (dropZ [d] = lm B9 d) := by
  unfold Hid;rw [dZe B9 tlB [d] (by intro y hy; simp at hy; omega)];simp [lval]
 have Q : (lm B9 d).length <= 1000000 := Nat.le_trans (la0 B9 d 1 tlB (by simpa using I)) (by decide);have O : Rd .u64 (w.alloc (.cells #[.int .u64 Y] 193)) (.slice (some ⟨w.heap.size, 0, none⟩) 1 1) [d] :=
  (show Arr .u64 (w.alloc (.cells #[.int .u64 Y] 193)) w.heap.size 193 [d] by unfold Arr; rw [heap_alloc_new, Z]; rfl).rd (by simp [maxLen])
 have V : Rd .u64 (w.alloc (.cells #[.int .u64 Y] 193)) M (lm B9 a) := L.alloc _;have U : Below w.heap.size w (w.alloc (.cells #[.int .u64 Y] 193)) := (Below.refl _ _).alloc (Nat.le_refl _) _;clear L Z;go_enter Tryz.func170, Tryz.ntmps170;go_wp2_with fail;refine (tay _ _ _ O).mono ?_;rintro e H ⟨G, rfl, X, rfl⟩;rw [K.out] at X;go_wp2_with fail;refine (td0 _ _ _ a d V X R Q).mono ?_;rintro e H ⟨E, rfl, N, S⟩;go_wp2_with fail;go_ret;exact ⟨_, rfl, N, U.trans (S.mono (by simp))⟩
end Go.Proofs.YtmcbeajdloaliaaGreatDoor
