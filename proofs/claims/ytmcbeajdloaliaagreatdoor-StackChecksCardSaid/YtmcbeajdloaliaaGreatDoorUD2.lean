import Derived.Test.YtmcbeajdloaliaaGreatDoorUD1
import Derived.Deep.RegionWith
import Derived.Deep.DeepCutAuto
/- Klipperef01: cut, less; integer.divide. -/
set_option maxHeartbeats 20000000
set_option maxRecDepth 100000
namespace Go.Proofs.YtmcbeajdloaliaaGreatDoor
open Go.RowKit
theorem Tryz.info_i64 : (Tryz.prog.info? 3).map (fun i => (i.zero, i.size, i.bytes)) = some (some (.int .i64 0), 1, 8) := by kernel_rfl
theorem aad (b o j : Nat) : (⟨b, o, none⟩ : Addr).add j = ⟨b, o + j, none⟩ := by
 unfold Addr.add;split
 ·rename_i h; subst h; rfl
 ·rfl
theorem c4f (w : World) (v : Value) (l : List Nat) (h : Rd .i64 w v l) :
 Calls Tryz.prog 189 #[v] w (Same (fun v' => Rd .i64 w v' (dropZ l) /\ ∀ n, FreshV n v -> FreshV n v') w) := by
 have Q := h;obtain ⟨p, c, rfl, G, J, L⟩ := h.open;have R := Lib.hid Q;clear h Q;have I : c <= 9223372036854775807 := J;go_enter Tryz.func189, Tryz.ntmps189;go_wp2;go_loop [0] (fun t => ∃ n : Nat, n <= l.length /\ t = .slice p n c /\ Hid (dropZ l = dropZ (l.take n))) (fun t => match t with | .slice _ n _ => n | _ => 0)
 case atStart => exact ⟨_, Nat.le_refl _, rfl, by unfold Hid; rw [List.take_length]⟩
 case round =>
  obtain ⟨n, U, rfl, X⟩ := hrel;rcases Nat.eq_zero_or_pos n with rfl | M
  ·go_wp2
   go_ret;exact ⟨_, rfl, ⟨tex w l p c 0 U R.out (by rw [X.out]; rfl), fun m hF a l' c' e => by cases e; exact hF _ _ _ rfl⟩, rfl⟩
  ·have S : l ≠ [] := by intro e; subst e; simp at U; omega
   obtain ⟨b, off, rfl, N, Z⟩ := L S;obtain ⟨m, rfl⟩ : ∃ m, n = m + 1 := ⟨n - 1, by omega⟩;have Y : m < l.length := by omega
   have V := Z m Y;have O := Lib.hid (List.take_succ_eq_append_getElem Y);clear Z L;by_cases h0 : l[m] = 0
   ·have K := Lib.hid h0
    rw [h0] at V;clear h0;go_wp2
    go_round
    case rel => exact ⟨m, by omega, rfl, by unfold Hid; rw [X.out, O.out, K.out, db0]⟩
    case measure => simp
   ·have H : ((l[m] : Int) == 0) = false := by simpa using h0
    go_wp2;go_ret;exact ⟨_, rfl, ⟨tex w l _ c (m+1) U R.out (by rw [X.out, O.out, dZs _ _ h0]), fun m hF a l' c' e => by cases e; exact hF _ _ _ rfl⟩, rfl⟩
theorem c4a (w : World) (v : Value) (l : List Nat) (h : Rd .i64 w v l) :
 Calls Tryz.prog 189 #[v] w (Same (fun v' => Rd .i64 w v' (dropZ l)) w) :=
 (c4f w v l h).mono fun _ _ ⟨v', he, hv, hw⟩ => ⟨v', he, hv.1, hw⟩
theorem ltp {a b i : Nat} (V : i < (lm B4 a).length) (Z : i < (lm B4 b).length) (X : (lm B4 a).drop (i + 1) = (lm B4 b).drop (i + 1))
 (Y : (lm B4 a)[i] < (lm B4 b)[i]) : a < b := by
 have := lb0 B4 _ _ i (lm_lt B4 a ta0) V Z X Y;rwa [llm _ _ ta0, llm _ _ ta0] at this
theorem lf0 (w : World) (r o : Value) (a b : Nat) (E : Rd .i64 w r (lm B4 a)) (D : Rd .i64 w o (lm B4 b)) :
 Calls Tryz.prog 190 #[r, o] w (Drawn (fun v' => v' = .bool (decide (a < b))) w) := by
 obtain ⟨p, c, rfl, h, f, z⟩ := E.open;obtain ⟨q, d, rfl, g, hn, v⟩ := D.open;clear E D;have e : c <= 9223372036854775807 := f;have h0 : d <= 9223372036854775807 := hn;rcases Nat.lt_trichotomy (lm B4 a).length (lm B4 b).length with S | S | S
 ·have X : Hid (decide (a < b) = true) := by unfold Hid; exact decide_eq_true (llo B4 a b ta0 S)
  have L : (((lm B4 a).length : Int) != ((lm B4 b).length : Int)) = true := by rw [bne_iff_ne]; omega
  have k : decide (((lm B4 a).length : Int) < ((lm B4 b).length : Int)) = true := by simp; omega
  go_enter Tryz.func190, Tryz.ntmps190;go_wp2;go_ret;exact ⟨_, rfl, congrArg Value.bool (show _ = decide (a < b) by first | exact X.out.symm | (rw [X.out]; simp; omega)), dzo _⟩
 ·have L : (((lm B4 a).length : Int) != ((lm B4 b).length : Int)) = false := by rw [bne_eq_false_iff_eq]; omega
  obtain ⟨n, Z⟩ : ∃ n, (lm B4 a).length = n := ⟨_, rfl⟩;have HA := Lib.hid Z;have HB := Lib.hid (S.symm.trans Z);have I : (lm B4 a).length <= n := by omega
  have C : n <= (lm B4 a).length := by omega
  have H : (lm B4 b).length <= n := by omega
  have B : n <= (lm B4 b).length := by omega
  have h3 : n <= c := by omega
  have h4 : n <= d := by omega
  rw [Z, S.symm.trans Z] at L;rw [Z, S.symm.trans Z];clear S Z h g;go_enter Tryz.func190, Tryz.ntmps190;go_wp2;go_loopw [5] (fun t wr => ∃ i : Nat, i <= n /\ t = .int .i64 ((i : Int) - 1) /\ Hid ((lm B4 a).drop i = (lm B4 b).drop i) /\ ∃ j, wr = w.drewN j) (fun t _ => (intOf t + 1).toNat)
  case atStart => exact ⟨n, Nat.le_refl _, rfl, by unfold Hid; rw [List.drop_eq_nil_of_le I, List.drop_eq_nil_of_le H], 0, rfl⟩
  case round =>
   obtain ⟨i, hi, rfl, O, j, rfl⟩ := hrel;rcases Nat.eq_zero_or_pos i with rfl | A
   ·have l : Hid (a = b) := Lib.hid (lij B4 ta0 (by simpa using O.out))
    go_wp2;go_ret;exact ⟨_, rfl, congrArg Value.bool (show _ = decide (a < b) by rw [l.out]; simp), j, rfl⟩
   ·obtain ⟨m, rfl⟩ : ∃ m, i = m + 1 := ⟨i - 1, by omega⟩
    have U : m < (lm B4 a).length := by omega
    have Y : m < (lm B4 b).length := by omega
    obtain ⟨ba, oa, rfl, _, R⟩ := z (List.ne_nil_of_length_pos (by omega));obtain ⟨bb, ob, rfl, _, Q⟩ := v (List.ne_nil_of_length_pos (by omega));have K := R m U;have J := Q m Y;clear R Q z v;obtain ⟨x, hx⟩ : ∃ x, (lm B4 a)[m] = x := ⟨_, rfl⟩;obtain ⟨y, hy⟩ : ∃ y, (lm B4 b)[m] = y := ⟨_, rfl⟩;rw [hx] at K;rw [hy] at J;have N := Lib.hid hx;have M := Lib.hid hy;clear hx hy;have G : ((m + 1 : Nat) : Int) - 1 = (m : Int) := by omega
    rw [G];clear G;have f1 : (0 : Int) <= (m : Int) := by omega
    have f2 : (m : Int) < (n : Int) := by omega
    rcases Nat.lt_trichotomy x y with V | V | V
    ·have s : ((x : Int) != (y : Int)) = true := by rw [bne_iff_ne]; omega
     have t2 : decide ((x : Int) < (y : Int)) = true := by simp; omega
     have X : Hid (decide (a < b) = true) := by unfold Hid; exact decide_eq_true (ltp U Y O.out (by rw [N.out, M.out]; exact V))
     go_wp2_with fail;go_quiet (fail);go_wp2_with fail;go_quiet (fail);go_wp2;go_ret;exact ⟨_, rfl, congrArg Value.bool (show _ = decide (a < b) by first | exact X.out.symm | (rw [X.out]; simp; omega)), dsp (dsp ⟨j, rfl⟩ _) _⟩
    ·subst V
     have s : ((x : Int) != (x : Int)) = false := by simp
     go_wp2_with fail;go_quiet (fail);go_wp2;go_roundw
     case rel => exact ⟨m, by omega, rfl, by unfold Hid; exact di0 U Y O.out (by rw [N.out, M.out]), _, rfl⟩
     case measure => simp [intOf]
    ·have s : ((x : Int) != (y : Int)) = true := by rw [bne_iff_ne]; omega
     have t2 : decide ((x : Int) < (y : Int)) = false := by simp; omega
     have X : Hid (decide (a < b) = false) := by
      unfold Hid;have := ltp Y U O.out.symm (by rw [N.out, M.out]; exact V);exact decide_eq_false (by omega)
     go_wp2_with fail;go_quiet (fail);go_wp2_with fail;go_quiet (fail);go_wp2;go_ret;exact ⟨_, rfl, congrArg Value.bool (show _ = decide (a < b) by first | exact X.out.symm | (rw [X.out]; simp; omega)), dsp (dsp ⟨j, rfl⟩ _) _⟩
 ·have X : Hid (decide (a < b) = false) := by
   unfold Hid;have := llo B4 b a ta0 S;exact decide_eq_false (by omega)
  have L : (((lm B4 a).length : Int) != ((lm B4 b).length : Int)) = true := by rw [bne_iff_ne]; omega
  have k : decide (((lm B4 a).length : Int) < ((lm B4 b).length : Int)) = false := by simp; omega
  go_enter Tryz.func190, Tryz.ntmps190;go_wp2;go_ret;exact ⟨_, rfl, congrArg Value.bool (show _ = decide (a < b) by first | exact X.out.symm | (rw [X.out]; simp; omega)), dzo _⟩
open Go.Shelf
theorem fDz (xs : List Nat) (b k j : Nat) (Z : j < xs.length - k) : (foldD xs b (bwd xs.length k)).1[j]?.getD 0 = 0 := by
 induction k with
 | zero => simp [bwd, foldD, List.getElem?_replicate]; split <;> rfl
 | succ k ih =>
   rw [bsc, fDs];unfold stepD;simp only;rw [List.getElem?_set_ne (by omega)];exact ih (by omega)
theorem fDa {a b : Nat} (Y : 0 < b) :
 dropZ (foldD (lm B9 a) b (bwd (lm B9 a).length (lm B9 a).length)).1 = lm B9 (a / b) /\ (foldD (lm B9 a) b (bwd (lm B9 a).length (lm B9 a).length)).2 = a % b := by
 have hx := lm_lt B9 a tlB;obtain ⟨R, S, X⟩ := fDi hx Y (bwd (lm B9 a).length (lm B9 a).length);have Z := fDv hx Y (lm B9 a).length (Nat.le_refl _);rw [Nat.sub_self, List.drop_zero, List.drop_zero, llm B9 a tlB] at Z;generalize foldD (lm B9 a) b (bwd (lm B9 a).length (lm B9 a).length) = s at *;have V : a / b = lval B9 s.1 := by rw [Z, Nat.mul_add_div Y, Nat.div_eq_of_lt X, Nat.add_zero]
 have U : a % b = s.2 := by rw [Z, Nat.mul_add_mod_self_left, Nat.mod_eq_of_lt X]
 rw [V, U];exact ⟨dZe B9 tlB _ S, rfl⟩
theorem gge {B b r bt rt m : Nat} (V : bt * B ^ m <= b) (Y : r < (rt + 1) * B ^ m) (Z : 0 < bt) : r / b <= rt / bt := by
 have R : 0 < B ^ m := by
  rcases Nat.eq_zero_or_pos (B ^ m) with h | h
  ·rw [h] at Y; simp at Y
  ·exact h
 rw [Nat.le_div_iff_mul_le Z];have U : r / b * b <= r := Nat.div_mul_le_self r b;have S : r / b * (bt * B ^ m) <= r / b * b := Nat.mul_le_mul_left _ V;have X : r / b * bt * B ^ m < (rt + 1) * B ^ m := by rw [Nat.mul_assoc]; omega
 have := Nat.lt_of_mul_lt_mul_right X;omega
theorem lk0 (n : Nat) (k : Nat) (h : (lm B9 n).length = k + 1) (X : k < (lm B9 n).length) : (lm B9 n)[k] * B9 ^ k <= n /\ n < ((lm B9 n)[k] + 1) * B9 ^ k /\ 0 < (lm B9 n)[k] := by
 have e : lm B9 n = (lm B9 n).take k ++ [(lm B9 n)[k]] := by
  conv => lhs; rw [<- List.take_append_drop k (lm B9 n)]
  rw [List.drop_eq_getElem_cons X, List.drop_eq_nil_of_le (by omega)]
 have U := llm B9 n tlB;have V : lval B9 ((lm B9 n).take k) < B9 ^ k := by
  have := llt B9 ((lm B9 n).take k) (fun x hx => lm_lt B9 n tlB x (List.mem_of_mem_take hx));rwa [List.length_take, Nat.min_eq_left (by omega)] at this
 have Y : lval B9 (lm B9 n) = lval B9 ((lm B9 n).take k) + (lm B9 n)[k] * B9 ^ k := by
  conv => lhs; rw [e]
  rw [lsc, List.length_take, Nat.min_eq_left (by omega)]
 rw [U] at Y;refine ⟨by omega, by rw [Nat.add_mul]; omega, ?_⟩;rcases Nat.eq_zero_or_pos (lm B9 n)[k] with Z | Z
 ·rw [Z] at e; exact absurd e (lc0 B9 n tlB _)
 ·exact Z
theorem ldl (n k : Nat) : n < (lval B9 ((lm B9 n).drop k) + 1) * B9 ^ k := by
 have V := llm B9 n tlB;rcases Nat.lt_or_ge k (lm B9 n).length with Z | Z
 ·have X : lval B9 ((lm B9 n).take k) < B9 ^ k := by
   have := llt B9 ((lm B9 n).take k) (fun x hx => lm_lt B9 n tlB x (List.mem_of_mem_take hx));rwa [List.length_take, Nat.min_eq_left (by omega)] at this
  have Y : lval B9 (lm B9 n) = lval B9 ((lm B9 n).take k) + B9 ^ k * lval B9 ((lm B9 n).drop k) := by
   conv => lhs; rw [<- List.take_append_drop k (lm B9 n)]
   rw [lad, List.length_take, Nat.min_eq_left (by omega)]
  rw [V] at Y;rw [Nat.add_mul, Nat.mul_comm (lval B9 _)];omega
 ·rw [List.drop_eq_nil_of_le Z]
  have := lll B9 n tlB;have U : B9 ^ (lm B9 n).length <= B9 ^ k := Nat.pow_le_pow_right (by decide) Z;simp [lval]; omega
theorem dto {l : List Nat} {k : Nat} (h : l.length = k + 2) : l.drop k = [l[k]'(by omega), l[k + 1]'(by omega)] := by
 rw [List.drop_eq_getElem_cons (by omega), List.drop_eq_getElem_cons (by omega), List.drop_eq_nil_of_le (by omega)]
theorem do' {l : List Nat} {k : Nat} (h : l.length = k + 1) : l.drop k = [l[k]'(by omega)] := by
 rw [List.drop_eq_getElem_cons (by omega), List.drop_eq_nil_of_le (by omega)]
theorem Arr.below {k : IntKind} {w w' : World} {g E : Nat} {o : List Nat} (h : Arr k w g E o) (Z : Below w.heap.size w w') : Arr k w' g E o :=
 (Z.block g h.lt).trans h
theorem RdC.set_fresh {sz g i : Nat} {w : World} {v : Value} {n : Nat} {cs : List Value} (h : RdC sz w v n cs) (Q : FreshV (g + 1) v) (u : Value) : RdC sz (w.setCell ⟨g, i, none⟩ u) v n cs := by
 obtain ⟨p, c, Y, X, V, U, S⟩ := h;refine ⟨p, c, Y, X, V, U, fun hne => ?_⟩;obtain ⟨b, off, Z, R⟩ := S hne;refine ⟨b, off, Z, fun j x hx => ?_⟩;have O : g + 1 <= b := Q ⟨b, off, none⟩ n c (by rw [Y, Z]);rw [World.cell?_setCell_other _ _ _ _ (by simp only [ne_eq, Addr.mk.injEq, not_and]; omega)];exact R j x hx
theorem szo (q : List Nat) (i : Nat) (h : q[i]?.getD 0 = 0) : q.set i 0 = q := by
 apply List.ext_getElem?;intro j;rw [List.getElem?_set];split
 ·rename_i e; subst e
  split
  ·rename_i hl; rw [List.getElem?_eq_getElem hl] at *; simp only [Option.getD_some] at h; rw [h]
  ·rename_i hl; rw [List.getElem?_eq_none (by omega)]
 ·rfl
theorem dj0 (w : World) (Y X : Value) (a b : Nat) (Q : Rd .u64 w Y (lm B9 a)) (V : Rd .u64 w X [b]) (U : 0 < b) (S : b < B9) (Z : (lm B9 a).length <= 1000000) :
 Calls Tryz.prog 132 #[Y, X] w (Ret (QR (a / b) (a % b)) w) := by
 have R : lm B9 b = [b] := by
  have := (dZe B9 tlB [b] (by intro y hy; simp at hy; omega)).symm;simp only [lval, Nat.mul_zero, Nat.add_zero] at this;rw [this, <- List.nil_append [b], dZs _ _ (by omega)]
 rw [<- R] at V;rcases Nat.lt_or_ge a b with h | h
 ·exact dls w Y X a b Q V h
 ·exact doe w Y X a b Q V h U S Z
theorem dme (w : World) (va vb : Value) (a b : Nat) (ha : Rd .u64 w va (lm B9 a)) (hb : Rd .u64 w vb (lm B9 b)) (xo : b <= a) (xp : B9 <= b) (vn : (lm B9 a).length <= 900000) :
 Calls Tryz.prog 132 #[va, vb] w (Ret (QR (a / b) (a % b)) w) := by
 obtain ⟨cz, zl⟩ := zex (cmpN a b);have ve : ¬ cz < 0 := by rw [zl]; unfold cmpN; split; omega; split <;> omega
 have j1 : 2 <= (lm B9 b).length := by
  rcases Nat.lt_or_ge (lm B9 b).length 2 with h | h
  ·have := lll B9 b tlB
   have H : B9 ^ (lm B9 b).length <= B9 ^ 1 := Nat.pow_le_pow_right (by decide) (by omega);rw [Nat.pow_one] at H;omega
  ·exact h
 have vm : (lm B9 b).length <= (lm B9 a).length := by
  rcases Nat.lt_or_ge (lm B9 a).length (lm B9 b).length with h | h
  ·have := llo B9 a b tlB h
   omega
  ·exact h
 obtain ⟨p, c, rfl, hc, hm, hr⟩ := ha.open;obtain ⟨q, d, rfl, hd, j2, hs⟩ := hb.open;have xD : lm B9 b ≠ [] := List.ne_nil_of_length_pos (by omega);obtain ⟨bb, ob, rfl, vO, y9⟩ := hs xD;have z8 := y9 ((lm B9 b).length - 1) (by omega);have ji : (lm B9 b)[(lm B9 b).length - 1] < B9 := lm_lt B9 b tlB _ (List.getElem_mem _);obtain ⟨tz, hQ⟩ := zex (((lm B9 b)[(lm B9 b).length - 1] : Nat) : Int);rw [<- hQ] at z8;have jj : 0 < (lm B9 b)[(lm B9 b).length - 1] := by
  rcases Nat.eq_zero_or_pos (lm B9 b)[(lm B9 b).length - 1] with h0 | h0
  ·refine absurd ?_ (lc0 B9 b tlB ((lm B9 b).take ((lm B9 b).length - 1)))
   conv => lhs; rw [<- List.take_append_drop ((lm B9 b).length - 1) (lm B9 b)]
   rw [List.drop_eq_getElem_cons (by omega), h0, List.drop_eq_nil_of_le (by omega)]
  ·exact h0
 have D : B9 = 1000000000 := rfl;have vy : 1 <= tz /\ tz < 1000000000 := by omega
 obtain ⟨f, hf⟩ := zex (B9 / ((lm B9 b)[(lm B9 b).length - 1] + 1) : Nat);obtain ⟨fz, zn⟩ := zex (1000000000 / (tz + 1) : Int);have yk : fz = (f : Int) := by rw [zn, hf, hQ]; push_cast; rfl
 have xt : 1 <= f /\ f <= 500000000 := by
  rw [hf];refine ⟨Nat.div_pos (by omega) (by omega), ?_⟩;exact Nat.le_trans (Nat.div_le_div_left (show 2 <= _ by omega) (by decide)) (by decide)
 have vZ : 1 <= fz /\ fz <= 500000000 := by omega
 have hM : f < B9 := by omega
 have HF := Lib.hid yk;have vI := Lib.hid hQ;have yW := Lib.hid zl;have HA := Lib.hid ha;have HB := Lib.hid hb;clear D hQ zl hs y9 ha hb;go_enter Tryz.func132, Tryz.ntmps132;go_wp2_with fail;refine (oay _ _ _ a b ((HA.out.alloc _).alloc _) ((HB.out.alloc _).alloc _)).mono ?_;rintro e w1 ⟨_, rfl, rfl, j, rfl⟩;rw [<- yW.out];go_wp2_with fail;rw [<- zn];clear yk hf zn;generalize hW : ((w.alloc (Obj.cells #[Value.slice (some ⟨bb, ob, none⟩) (lm B9 b).length d] 162)).alloc (Obj.cells #[Value.slice none 0 0] 162)).drewN j = W;have vM : W.heap.size = w.heap.size + 2 := by rw [<- hW]; simp
 have hK : Below w.heap.size w W := by
  rw [<- hW];exact ((((Below.refl _ w).alloc (Nat.le_refl _) _).alloc (by simp) _).trans (bdN _ j |>.mono (by simp; omega)))
 have w0 : W.cell? ⟨w.heap.size, 0, none⟩ = some (.slice (some ⟨bb, ob, none⟩) (lm B9 b).length d) := by
  rw [<- hW, World.cell?_drewN, World.cell?_alloc_past _ _ _ (by simp), World.cell?_alloc_at _ _ _ _ rfl]; rfl
 have yO : W.frozen? ⟨w.heap.size, 0, none⟩ = false := by
  rw [<- hW]; exact fal (v := .slice (some ⟨bb, ob, none⟩) (lm B9 b).length d) _ (by rw [World.cell?_alloc_at _ _ _ _ rfl]; rfl) (World.frozen?_alloc_at _ _ _ _ rfl)
 have w1 : W.cell? ⟨w.heap.size + 1, 0, none⟩ = some (.slice none 0 0) := by
  rw [<- hW, World.cell?_drewN, World.cell?_alloc_at _ _ _ _ (by simp)]; rfl
 have yQ : W.frozen? ⟨w.heap.size + 1, 0, none⟩ = false := by
  rw [<- hW]; exact World.frozen?_alloc_at _ _ _ _ (by simp)
 have wa := RdC.below HA.out hK;have wb := RdC.below HB.out hK;have zN := Lib.hid wa;have zP := Lib.hid wb;clear hW wa wb;go_cut [0] (fun s0 wx => Rd .u64 wx s0 (lm B9 (a * f)) /\ (∃ v, wx.cell? ⟨w.heap.size, 0, none⟩ = some v /\ Rd .u64 wx v (lm B9 (b * f))) /\ wx.frozen? ⟨w.heap.size, 0, none⟩ = false
  /\ wx.cell? ⟨w.heap.size + 1, 0, none⟩ = some (.slice none 0 0) /\ wx.frozen? ⟨w.heap.size + 1, 0, none⟩ = false /\ Below w.heap.size w wx /\ w.heap.size + 2 <= wx.heap.size)
 case first =>
  have zO : Hid (Rd .u64 W.drew (.slice p (lm B9 a).length c) (lm B9 a)) := zN.out;have zQ : Hid (Rd .u64 W.drew (.slice (some ⟨bb, ob, none⟩) (lm B9 b).length d) (lm B9 b)) := zP.out
  go_region_with (first
   | (go_at_call 170; refine (si0 _ _ a f fz HF.out zO.out (by omega) hM).mono ?_; rintro e w9 ⟨v9, rfl, yG, U⟩
      have y0 := zcq U (by show w.heap.size < W.heap.size; omega) w0;have xV := (U.frozen (p := ⟨w.heap.size, 0, none⟩) (by show w.heap.size < W.heap.size; omega)).trans yO;obtain ⟨p9, c9, rfl, vU, j9, je⟩ := yG.open)
   | (go_at_call 170; refine (si0 _ _ b f fz HF.out (RdC.below zQ.out U) (by omega) hM).mono ?_; rintro e yP ⟨jk, rfl, z9, R⟩
      have yB := U.size;have z0 := zcq R (by show w.heap.size < w9.heap.size; have : W.drew.heap.size = W.heap.size := rfl; omega) y0;have xX := (R.frozen (p := ⟨w.heap.size, 0, none⟩) (by show w.heap.size < w9.heap.size; have : W.drew.heap.size = W.heap.size := rfl; omega)).trans xV;obtain ⟨xT, xj, rfl, vc, vt, vv⟩ := z9.open))
  all_goals
   have vw : W.drew.heap.size = W.heap.size := rfl;have q1 := (R.cell (p := ⟨w.heap.size + 1, 0, none⟩) (by show w.heap.size + 1 < w9.heap.size; omega)).trans ((zcq U (by show w.heap.size + 1 < W.heap.size; omega) w1 :));have xU := (R.frozen (p := ⟨w.heap.size + 1, 0, none⟩) (by show w.heap.size + 1 < w9.heap.size; omega)).trans ((U.frozen (p := ⟨w.heap.size + 1, 0, none⟩) (by show w.heap.size + 1 < W.heap.size; omega)).trans yQ);have xJ := R.size;have hB : Below w.heap.size w (yP.setCell ⟨w.heap.size, 0, none⟩ (.slice xT (lm B9 (b * f)).length xj)) :=
    ((hK.trans (((bdN W 1).mono (show w.heap.size <= W.heap.size by omega)).trans ((U.trans (R.mono yB)).mono (show w.heap.size <= W.heap.size by omega)))).setCell (Nat.le_refl _) _)
   go_wp2_with fail;go_meet;refine ⟨RdC.set_other (RdC.below yG R) z0 (by simp), ⟨_, World.cell?_setCell_same' _ _ _ (by rw [z0]; rfl), RdC.set_other z9 z0 (by simp)⟩, ?_, ?_, ?_, hB, ?_⟩
   ·rw [World.frozen?_setCell]; exact xX
   ·rw [World.cell?_setCell_other _ _ _ _ (by simp), q1]
   ·rw [World.frozen?_setCell]; exact xU
   ·show w.heap.size + 2 <= (yP.setCell _ _).heap.size
    simp [World.setCell]; omega
 case rest =>
  obtain ⟨zy, ⟨vb, yH, zw⟩, yI, J, hU, xq, jh⟩ := hcut;clear hr z8 hK w0 yO w1 yQ;have he := Lib.hid zw;have zc := Lib.hid zy;obtain ⟨pa, ca, rfl, vV, ja, jf⟩ := zy.open;obtain ⟨pb, cb, rfl, xr, jb, z4⟩ := zw.open;clear zy zw;have n : 0 < f := xt.1;have vN : B9 <= b * f := Nat.le_trans xp (Nat.le_mul_of_pos_right b n);have xZ : b * f <= a * f := Nat.mul_le_mul_right f xo;have vK : (1 : Nat) < B9 := by decide
  have vo : (lm B9 (a * f)).length <= 900001 := by
   refine Nat.le_trans (la0 B9 (a * f) ((lm B9 a).length + 1) tlB ?_) (by omega);have I := lll B9 a tlB;rw [Nat.pow_succ];exact Nat.mul_lt_mul_of_lt_of_le I (Nat.le_of_lt hM) (by decide)
  have vp : 2 <= (lm B9 (b * f)).length := by
   rcases Nat.lt_or_ge (lm B9 (b * f)).length 2 with h | h
   ·have := lll B9 (b * f) tlB
    have H : B9 ^ (lm B9 (b * f)).length <= B9 ^ 1 := Nat.pow_le_pow_right (by decide) (by omega);rw [Nat.pow_one] at H;omega
   ·exact h
  have vs : (lm B9 (b * f)).length <= (lm B9 (a * f)).length := by
   rcases Nat.lt_or_ge (lm B9 (a * f)).length (lm B9 (b * f)).length with h | h
   ·have := llo B9 (a * f) (b * f) tlB h
    omega
   ·exact h
  have hn : 0 < b * f := by omega
  have hR : Hid (a * f / (b * f) = a / b /\ a * f % (b * f) = a % b * f) := ⟨Nat.mul_div_mul_right a b n, Nat.mul_mod_mul_right f a b⟩;have zG := Lib.hid (fDa (a := a * f) hn);have h8 := Lib.hid (fun pre => fDi (lm_lt B9 (a * f) tlB) hn pre);have HZ := Lib.hid (fDz (lm B9 (a * f)) (b * f));have x8 : Hid (∀ k q r, (q, r) = foldD (lm B9 (a * f)) (b * f) (bwd (lm B9 (a * f)).length k) -> q.length = (lm B9 (a * f)).length) := by
   intro k q r e;have := (h8.out (bwd (lm B9 (a * f)).length k)).1;rw [<- e] at this;exact this
  have vE := Lib.hid (lm_lt B9 (a * f) tlB);obtain ⟨S, zo⟩ : ∃ S, (lm B9 (b * f)).length = S + 1 := ⟨(lm B9 (b * f)).length - 1, by omega⟩;have hZ : S < (lm B9 (b * f)).length := by omega
  have z := lk0 (b * f) S zo hZ;have xC := rmu (lm B9 (a * f)).length (by omega) wc;obtain ⟨bY, oY, rfl, v8, yd⟩ := z4 (List.ne_nil_of_length_pos (by omega));have O := yd S hZ;have xK : (lm B9 (b * f))[S] < B9 := lm_lt B9 (b * f) tlB _ (List.getElem_mem _);obtain ⟨ty, hC⟩ := zex (((lm B9 (b * f))[S] : Nat) : Int);rw [<- hC] at O;have vx : 1 <= ty /\ ty < 1000000000 := by
   have := z.2.2;have D : B9 = 1000000000 := rfl;omega
  have xc := Lib.hid hC;have zL := Lib.hid z;clear z4 yd xK hC z;have y1 : (wc.alloc (.cells (zeros (lm B9 (a * f)).length) 193)).cell? ⟨w.heap.size + 1, 0, none⟩ = some (.slice none 0 0) := cal _ J;have yS : (wc.alloc (.cells (zeros (lm B9 (a * f)).length) 193)).frozen? ⟨w.heap.size + 1, 0, none⟩ = false := fal _ J hU;have y2 : (wc.alloc (.cells (zeros (lm B9 (a * f)).length) 193)).cell? ⟨w.heap.size, 0, none⟩ = some (.slice (some ⟨bY, oY, none⟩) (lm B9 (b * f)).length cb) := cal _ yH;have y3 : ((wc.alloc (.cells (zeros (lm B9 (a * f)).length) 193)).setCell ⟨w.heap.size + 1, 0, none⟩ (.slice (some ⟨wc.heap.size, 0, none⟩) (lm B9 (a * f)).length (lm B9 (a * f)).length)).cell? ⟨bY, oY + S, none⟩ = some (.int .u64 ty) := by
   rw [World.cell?_setCell_other _ _ _ _ (fun e => by rw [<- e, J] at O; cases O)];exact cal _ O
  go_wp2_with fail;generalize K : (wc.alloc (.cells (zeros (lm B9 (a * f)).length) 193)).setCell ⟨w.heap.size + 1, 0, none⟩ (.slice (some ⟨wc.heap.size, 0, none⟩) (lm B9 (a * f)).length (lm B9 (a * f)).length) = W2 at *;have z0 : W2.cell? ⟨w.heap.size, 0, none⟩ = some (.slice (some ⟨bY, oY, none⟩) (lm B9 (b * f)).length cb) := by
   rw [<- K, World.cell?_setCell_other _ _ _ _ (by simp)]; exact y2
  have z1 : W2.cell? ⟨w.heap.size + 1, 0, none⟩ = some (.slice (some ⟨wc.heap.size, 0, none⟩) (lm B9 (a * f)).length (lm B9 (a * f)).length) := by
   rw [<- K]; exact World.cell?_setCell_same' _ _ _ (by rw [y1]; rfl)
  have xY : W2.frozen? ⟨w.heap.size + 1, 0, none⟩ = false := by rw [<- K, World.frozen?_setCell]; exact yS
  have zA : Arr .u64 W2 wc.heap.size 193 (List.replicate (lm B9 (a * f)).length 0) := by
   rw [<- K];unfold Arr;rw [heap_setCell_other _ _ _ _ (by simp; omega)];exact heap_alloc_new _ _
  have zX : Rd .u64 W2 (.slice pa (lm B9 (a * f)).length ca) (lm B9 (a * f)) := by
   rw [<- K]; exact RdC.set_other (RdC.alloc zc.out _) y1 (by simp)
  have zY : Rd .u64 W2 (.slice (some ⟨bY, oY, none⟩) (lm B9 (b * f)).length cb) (lm B9 (b * f)) := by
   rw [<- K]; exact RdC.set_other (RdC.alloc he.out _) y1 (by simp)
  have zB : Below w.heap.size w W2 := by
   rw [<- K]; exact (xq.alloc (by omega) _).setCell (by simp) _
  have zs : W2.heap.size = wc.heap.size + 1 := by rw [<- K]; simp [World.setCell]
  have oX : OldV wc.heap.size (.slice pa (lm B9 (a * f)).length ca) := RdC.old zc.out (by intro e; have e2 := congrArg List.length e; rw [List.length_map] at e2; simp only [List.length_nil] at e2; omega);have yN : OldV wc.heap.size (.slice (some ⟨bY, oY, none⟩) (lm B9 (b * f)).length cb) := RdC.old he.out (by intro e; have e2 := congrArg List.length e; rw [List.length_map] at e2; simp only [List.length_nil] at e2; omega);generalize hg : wc.heap.size = g at *;have HX := Lib.hid zX;have HY := Lib.hid zY;have x3 := Lib.hid oX;have x4 := Lib.hid yN;clear K y1 yS y2 y3 yH yI J hU O xC zX zY oX yN zc he zN zP;have yZ := Lib.hid zo;clear zo;go_loopw [5, 11] (fun t5 t11 wr => ∃ (k : Nat) (q : List Nat) (r : Nat) (iz : Int), k <= (lm B9 (a * f)).length /\ t11 = .int .i64 iz /\ Hid (iz = ((lm B9 (a * f)).length : Int) - 1 - k) /\ Hid ((q, r) = foldD (lm B9 (a * f)) (b * f) (bwd (lm B9 (a * f)).length k))
   /\ Rd .u64 wr t5 (lm B9 r) /\ FreshV (g + 1) t5 /\ Arr .u64 wr g 193 q /\ Below g W2 wr /\ g + 1 <= wr.heap.size) (fun _ t11 _ => (intOf t11 + 1).toNat)
  case atStart =>
   refine ⟨0, _, 0, _, Nat.zero_le _, rfl, ?_, rfl, by rw [lzo]; exact RdC.nil0 _ _, (by intro a l c e; cases e), zA, Below.refl _ _, by omega⟩;unfold Hid; omega
  case round =>
   obtain ⟨k, q, r, iz, hk, rfl, C, h6, zt, xu, M, L, zE⟩ := hrel;have yA : r < b * f := by
    have := (h8.out (bwd (lm B9 (a * f)).length k)).2.2;rw [<- h6.out] at this;exact this
   have jg : (lm B9 r).length <= (lm B9 (b * f)).length := la0 B9 r _ tlB (Nat.lt_trans yA (lll B9 (b * f) tlB));have vk : iz < 1000000 := by have := C.out; omega
   obtain ⟨p5, c5, rfl, vQ, j5, z3⟩ := zt.open;have B := Lib.hid zt;clear zt;rcases (by omega : iz < 0 \/ 0 <= iz) with vu | j0
   ·have xx : k = (lm B9 (a * f)).length := by have := C.out; omega
    have zI : Hid (dropZ q = lm B9 (a / b) /\ r / f = a % b) := by
     obtain ⟨e1, e2⟩ := zG.out;have e3 := h6.out;rw [xx] at e3;rw [<- e3] at e1 e2;simp only at e1 e2;rw [hR.out.1] at e1;rw [hR.out.2] at e2;exact ⟨e1, by rw [e2, Nat.mul_div_cancel _ n]⟩
    have h5 : Rd .u64 (wr.alloc (.cells #[.int .u64 fz] 193)) (.slice (some ⟨wr.heap.size, 0, none⟩) 1 1) [f] :=
     roe _ _ f fz HF.out (by rw [World.cell?_alloc_at _ _ _ _ rfl]; rfl)
    go_wp2_with fail;refine (dj0 _ _ _ r f (RdC.alloc B.out _) h5 n hM (by omega)).mono ?_;rintro e w5 ⟨_, rfl, ⟨vq, vr, rfl, hO, yz⟩, hL⟩;rw [zI.out.2] at hO;obtain ⟨p6, c6, rfl, vR, j6, zu⟩ := hO.open;have x6 := Lib.hid hO;clear hO zu yz;have hA : (wr.alloc (.cells #[.int .u64 fz] 193)).heap.size = wr.heap.size + 1 := by simp
    have v1 : w5.cell? ⟨w.heap.size + 1, 0, none⟩ = some (.slice (some ⟨g, 0, none⟩) (lm B9 (a * f)).length (lm B9 (a * f)).length) :=
     (hL.cell (p := ⟨w.heap.size + 1, 0, none⟩) (by rw [hA]; show w.heap.size + 1 < _; omega)).trans (cal _ ((zcq L (show w.heap.size + 1 < g by omega) z1 :)))
    have jm : w5.frozen? ⟨w.heap.size + 1, 0, none⟩ = false :=
     (hL.frozen (p := ⟨w.heap.size + 1, 0, none⟩) (by rw [hA]; show w.heap.size + 1 < _; omega)).trans (fal _ ((zcq L (show w.heap.size + 1 < g by omega) z1 :)) ((L.frozen (p := ⟨w.heap.size + 1, 0, none⟩) (show w.heap.size + 1 < g by omega)).trans xY))
    have yy : q.length = (lm B9 (a * f)).length := by
     have := (h8.out (bwd (lm B9 (a * f)).length k)).1;rw [<- h6.out] at this;exact this
    have y4 : Rd .u64 w5 (.slice (some ⟨g, 0, none⟩) (lm B9 (a * f)).length (lm B9 (a * f)).length) q := by
     have I := M.rd (by rw [yy]; unfold maxLen; omega);rw [yy] at I;exact RdC.below (RdC.alloc I _) hL
    have xb := Lib.hid y4;clear y4;go_wp2_with (first | (go_at_call 137; refine (tay _ _ _ xb.out).mono ?_; rintro e w6 ⟨v6, rfl, yF, rfl⟩; obtain ⟨p7, c7, rfl, vS, j7, zu⟩ := yF.open; clear zu));rw [zI.out.1] at *;have zi : (w5.setCell ⟨w.heap.size + 1, 0, none⟩ (.slice p7 (lm B9 (a / b)).length c7)).cell? ⟨w.heap.size + 1, 0, none⟩ = some (.slice p7 (lm B9 (a / b)).length c7) := World.cell?_setCell_same' _ _ _ (by rw [v1]; rfl);refine bodyPost_ret (v := .tuple #[.slice p7 (lm B9 (a / b)).length c7, .slice p6 (lm B9 (a % b)).length c6]) (by simp [results, Tryz.results132, go_sem, zi]) rfl ?_;refine ⟨_, rfl, ⟨_, _, rfl, RdC.set_other yF v1 (by simp), RdC.set_other x6.out v1 (by simp)⟩, ?_⟩;exact ((zB.trans (L.mono (show w.heap.size <= g by omega))).trans ((((Below.refl _ wr).alloc (Nat.le_refl _) _).trans (hL.mono (by rw [hA]; omega))).mono (by have := L.size; omega))).setCell (by simp) _
   ·obtain ⟨i, hi⟩ : ∃ i : Nat, (i : Int) = iz := ⟨iz.toNat, by omega⟩
    subst hi;have hN : i < (lm B9 (a * f)).length := by have := C.out; omega
    have y6 : Rd .u64 wr (.slice pa (lm B9 (a * f)).length ca) (lm B9 (a * f)) := RdC.belowB HX.out L x3.out;have zS := Lib.hid y6;clear y6;have yu : lm B9 (a * f) ≠ [] := List.ne_nil_of_length_pos (by omega);obtain ⟨px, cx, xl, vX, jd, yM⟩ := zS.out.open;obtain ⟨bX, oX, xk, v7, yc⟩ := yM yu;cases xl;subst xk;have hV := yc i hN;have xN : (lm B9 (a * f))[i] < B9 := lm_lt B9 (a * f) tlB _ (List.getElem_mem hN);obtain ⟨xz, zF⟩ := zex (((lm B9 (a * f))[i] : Nat) : Int);rw [<- zF] at hV;have vD : 0 <= xz /\ xz < 1000000000 := by
     have D : B9 = 1000000000 := rfl;omega
    have zT := Lib.hid zF;clear zF yM yc;have vj : i <= 1000000 := by omega
    have yz : (lm B9 r).length <= 1000000 := by omega
    have yL : Hid (dropZ ((lm B9 (a * f))[i] :: lm B9 r) = lm B9 (r * B9 + (lm B9 (a * f))[i])) := by
     unfold Hid;rw [dZe B9 tlB _ (by
      intro y hy;rcases List.mem_cons.1 hy with rfl | hy
      ·exact xN
      ·exact lm_lt B9 r tlB y hy)]
     congr 1;simp only [lval];rw [llm B9 r tlB, Nat.mul_comm B9 r, Nat.add_comm]
    go_upto_region 19 with fail;go_cut [5] (fun s5 wx => Rd .u64 wx s5 (lm B9 (r * B9 + (lm B9 (a * f))[i])) /\ FreshV (g + 1) s5 /\ Arr .u64 wx g 193 q /\ Below g W2 wx /\ g + 1 <= wx.heap.size)
    case first =>
     rcases Nat.eq_zero_or_pos r with xG | zx
     ·subst xG
      rw [lzo] at *;have h5 : Rd .u64 (wr.alloc (.cells #[.int .u64 xz] 193)) (.slice (some ⟨wr.heap.size, 0, none⟩) 1 1) [(lm B9 (a * f))[i]] :=
       roe _ _ _ xz zT.out (by rw [World.cell?_alloc_at _ _ _ _ rfl]; rfl)
      have zH := Lib.hid h5;have yl : FreshV (g + 1) (.slice (some ⟨wr.heap.size, 0, none⟩) 1 1) := by intro a' l' c' e; cases e; exact zE
      clear h5;cases p5;all_goals
       go_wp2_with fail;refine (tfl _ _ _ zH.out).mono ?_;rintro e w3 ⟨v3, rfl, ⟨hD, zm⟩, rfl⟩;rw [yL.out] at hD;go_wp2_with fail;go_meet;exact ⟨hD, zm _ yl, (ho0 _ _ _ M.lt).trans M, L.alloc (by omega) _, by simp; omega⟩
     ·have yw : lm B9 r ≠ [] := lnn B9 r tlB zx
      obtain ⟨b5, o5, rfl, v0, yb⟩ := z3 yw;have z6 : (wr.alloc (.cells #[.int .u64 xz] 193)).ownsRow wr.heap.size 193 1 (.slice (some ⟨wr.heap.size, 0, none⟩) 1 1) 1 [.int .u64 xz] :=
       ⟨rfl, .inr ⟨wr.heap.size, 1, _, rfl, Nat.le_refl _, heap_alloc_new _ _, Nat.le_refl _, by unfold maxLen; omega, rfl, rfl⟩⟩
      have hw : ∀ j u, ((lm B9 r).map fun x : Nat => Value.int .u64 (x : Int))[j]? = some u -> (wr.alloc (.cells #[.int .u64 xz] 193)).cell? ((⟨b5, o5, none⟩ : Addr).add j) = some u := by
       intro j u hu;have hj : j < (lm B9 r).length := by have := (List.getElem?_eq_some_iff.1 hu).1; simpa using this
       rw [List.getElem?_map, List.getElem?_eq_getElem hj] at hu;cases hu;rw [aad];show (wr.alloc (.cells #[.int .u64 xz] 193)).cell? ⟨b5, o5 + j, none⟩ = some (.int .u64 (((lm B9 r)[j] : Nat) : Int));exact cal _ (yb j hj)
      have hv : ∀ u ∈ (lm B9 r).map fun x : Nat => Value.int .u64 (x : Int), u.oneCell' = true := by
       intro u hu;obtain ⟨y, _, rfl⟩ := List.mem_map.1 hu;rfl
      obtain ⟨i0, xv, xO, xQ, xS⟩ := info_parts Tryz.info_u64;go_wp2_with (first | (at_builtin; refine wpList_append_own _ rfl _ _ 162 rfl wr.heap.size 193 i0 (.int .u64 0) 1 8 Tryz.underlying162 xv xO xQ xS rfl (by decide) _ _ _ rfl z6 ⟨b5, o5, none⟩ (lm B9 r).length c5 ((lm B9 r).map fun x : Nat => Value.int .u64 (x : Int)) rfl (by simp) hw hv (by unfold maxLen; omega) (by omega) (by simp) ?_));intro v' w2 A h4 _;have z5 : Rd .u64 w2 v' ((lm B9 (a * f))[i] :: lm B9 r) := by
       refine Rd.of_owns (base := wr.heap.size) (e := 193) rfl ?_;rw [List.length_cons, Nat.add_comm, List.map_cons, <- zT.out];exact A
      have ym : FreshV (g + 1) v' := fun a' l' c' e => Nat.le_trans zE (FreshV.of_owns A a' l' c' e);have xm : Below g W2 w2 := (L.alloc (by omega) _).grown h4 (by simp; omega) (fun k hk => by have e : wr.heap.size = k := (Option.some.inj hk); omega);have zd : Arr .u64 w2 g 193 q := (h4.block g (by simp; omega) (by intro e; have e : g = wr.heap.size := (Option.some.inj e); omega)).trans ((ho0 _ _ _ M.lt).trans M);have yJ : g + 1 <= w2.heap.size := by have := h4.size; simp at this; omega
      have zJ := Lib.hid z5;clear A h4 z5 z6 hw hv;go_wp2_with (first | (go_at_call 137; refine (tfl _ _ _ zJ.out).mono ?_; rintro e w3 ⟨v3, rfl, ⟨hD, zm⟩, rfl⟩; rw [yL.out] at hD));go_meet;exact ⟨hD, zm _ ym, zd, xm, yJ⟩
    case rest =>
     obtain ⟨hP, yn, hh, E, yK⟩ := hcut;have zh : wc.cell? ⟨w.heap.size, 0, none⟩ = some (.slice (some ⟨bY, oY, none⟩) (lm B9 (b * f)).length cb) := (zcq E (show w.heap.size < g by omega) z0 :);have y7 : Rd .u64 wc (.slice (some ⟨bY, oY, none⟩) (lm B9 (b * f)).length cb) (lm B9 (b * f)) := RdC.belowB HY.out E x4.out;have hG := Lib.hid y7;obtain ⟨Z, hH⟩ := zex (r * B9 + (lm B9 (a * f))[i]);have hz : Hid (foldD (lm B9 (a * f)) (b * f) (bwd (lm B9 (a * f)).length (k + 1)) = (q.set i (Z / (b * f)), Z % (b * f))) := by
      unfold Hid;rw [hH];have xw : (lm B9 (a * f)).length - 1 - k = i := by have := C.out; omega
      rw [bsc, fDs, xw, <- h6.out];unfold stepD;simp only [List.getElem?_eq_getElem hN, Option.getD_some]
     have yo : Hid (k < (lm B9 (a * f)).length) := by have := C.out; unfold Hid; omega
     have xE : Hid (q[i]?.getD 0 = 0) := by
      have := HZ.out k i (by have := C.out; omega);rw [<- h6.out] at this;exact this
     rw [<- hH] at hP;have xa := Lib.hid hH;obtain ⟨p8, c8, rfl, vT, j8, zv⟩ := hP.open;have hE := Lib.hid hP;clear hP y7 z3 B M L zE xu hV zS hH;rcases Nat.lt_or_ge Z (b * f) with zq | vi
     ·have ye : Hid (cmpN Z (b * f) = -1) := cNl zq
      have zr : Hid ((q, Z) = foldD (lm B9 (a * f)) (b * f) (bwd (lm B9 (a * f)).length (k + 1))) := by
       unfold Hid;rw [hz.out, Nat.div_eq_of_lt zq, Nat.mod_eq_of_lt zq, szo _ _ xE.out]
      clear zv;go_wp2_with (go_at_call 101; refine (oay _ _ _ Z (b * f) hE.out hG.out).mono ?_; rintro e w1 ⟨_, rfl, rfl, j', rfl⟩; rw [ye.out]);go_roundw
      case rel => exact ⟨k + 1, q, Z, _, yo.out, rfl, by have := C.out; unfold Hid; omega, zr, RdC.drewN hE.out _, yn, hh, E.trans ((bdN wc j').mono (by omega)), yK⟩
      case measure => simp [RowKit.intOf]
     ·have zj : ¬ cmpN Z (b * f) < 0 := by unfold cmpN; rw [if_neg (by omega)]; split <;> omega
      obtain ⟨cq, zk⟩ := zex (cmpN Z (b * f));rw [<- zk] at zj;have yU := Lib.hid zk;have hJ : Z < b * f * B9 := by
       rw [xa.out];have I : (r + 1) * B9 <= b * f * B9 := Nat.mul_le_mul_right _ yA;rw [Nat.add_mul] at I;omega
      obtain ⟨ly, ht⟩ := zex ((lm B9 (b * f)).length);have z2 : ly = S + 1 := by rw [ht]; exact yZ.out
      have yp : ly <= (lm B9 Z).length := by
       rw [ht];rcases Nat.lt_or_ge (lm B9 Z).length (lm B9 (b * f)).length with h | h
       ·have := llo B9 Z (b * f) tlB h
        omega
       ·exact h
      have yq : (lm B9 Z).length <= ly + 1 := by
       rw [ht];refine la0 B9 Z _ tlB (Nat.lt_of_lt_of_le hJ ?_);rw [Nat.pow_succ];exact Nat.mul_le_mul_right _ (Nat.le_of_lt (lll B9 (b * f) tlB))
      have yv : lm B9 Z ≠ [] := List.ne_nil_of_length_pos (by omega);obtain ⟨b8, o8, rfl, v5, ho⟩ := zv yv;have yr : (lm B9 Z).length <= 1000000 := by omega
      have vl : 2 <= (lm B9 Z).length := by omega
      have zf := ho ((lm B9 Z).length - 1) (by omega);have yC : (lm B9 Z)[(lm B9 Z).length - 1]'(by omega) < B9 := lm_lt B9 Z tlB _ (List.getElem_mem _);obtain ⟨t, zC⟩ := zex (((lm B9 Z)[(lm B9 Z).length - 1]'(by omega) : Nat) : Int);rw [<- zC] at zf;have vA : 0 <= t /\ t < 1000000000 := by
       have D : B9 = 1000000000 := rfl;omega
      have zg := ho ((lm B9 Z).length - 2) (by omega);have yD : (lm B9 Z)[(lm B9 Z).length - 2]'(by omega) < B9 := lm_lt B9 Z tlB _ (List.getElem_mem _);obtain ⟨vz, zD⟩ := zex (((lm B9 Z)[(lm B9 Z).length - 2]'(by omega) : Nat) : Int);rw [<- zD] at zg;have vB : 0 <= vz /\ vz < 1000000000 := by
       have D : B9 = 1000000000 := rfl;omega
      have yx : Z / (b * f) < B9 := Nat.div_lt_of_lt_mul hJ;have zZ := x8.out k q r h6.out;have x5 := Lib.hid zZ;have hT := Lib.hid zC;have zM := Lib.hid zD;have zb := Lib.hid ht;have hS := Lib.hid z2;clear zk zC zD ho zv zZ ht z2;rw [zb.out] at yp yq;have vF := Lib.hid hJ;have vG := Lib.hid yC;have vH := Lib.hid yD;have x7 := Lib.hid yx;clear hJ yC yD yx;go_wp2_with fail;refine (oay _ _ _ Z (b * f) hE.out hG.out).mono ?_;rintro e w1 ⟨_, rfl, rfl, j', rfl⟩;rw [<- yU.out];have xr : decide (cq < 0) = false := by simp; omega
      go_upto_region 21 with fail;have g0 : (wc.drewN j').cell? ⟨w.heap.size, 0, none⟩ = some (.slice (some ⟨bY, oY, none⟩) (lm B9 (b * f)).length cb) := zh;have g1 : (wc.drewN j').cell? ⟨b8, o8 + ((lm B9 Z).length - 1), none⟩ = some (.int .u64 t) := zf;have g2 : (wc.drewN j').cell? ⟨b8, o8 + ((lm B9 Z).length - 2), none⟩ = some (.int .u64 vz) := zg;rcases Nat.lt_or_ge (lm B9 (b * f)).length (lm B9 Z).length with zW | zW
      case' inl =>
       have t1 : decide ((lm B9 (b * f)).length < (lm B9 Z).length) = true := decide_eq_true zW
       have za : Hid (0 <= t * 1000000000 + vz /\ t * 1000000000 + vz <= 1000000000000000000 /\ Z < ((t * 1000000000 + vz).toNat + 1) * B9 ^ S) := by
            refine ⟨by omega, by omega, ?_⟩;have I : (lm B9 Z).length = S + 2 := by have := zb.out; have := hS.out; omega
            have H := ldl Z S;rw [dto I] at H;simp only [lval, Nat.mul_zero, Nat.add_zero] at H;have e1 : t = ((lm B9 Z)[S + 1]'(by omega) : Nat) := by rw [hT.out]; congr 2; omega
            have e2 : vz = ((lm B9 Z)[S]'(by omega) : Nat) := by rw [zM.out]; congr 2; omega
            have e3 : (t * 1000000000 + vz).toNat = (lm B9 Z)[S]'(by omega) + B9 * (lm B9 Z)[S + 1]'(by omega) := by
             have D : B9 = 1000000000 := rfl;have U : ∀ m : Nat, B9 * m = 1000000000 * m := fun m => rfl;rw [U];generalize (lm B9 Z)[S]'(by omega) = x2 at *;generalize (lm B9 Z)[S + 1]'(by omega) = x1 at *;omega
            rw [e3]; exact H
       go_upto_region 24 with fail;generalize t * 1000000000 + vz = Dz at *;clear t1
      case' inr =>
       have t1 : decide ((lm B9 (b * f)).length < (lm B9 Z).length) = false := decide_eq_false (by omega)
       have za : Hid (0 <= t /\ t <= 1000000000000000000 /\ Z < (t.toNat + 1) * B9 ^ S) := by
            refine ⟨by omega, by omega, ?_⟩;have I : (lm B9 Z).length = S + 1 := by have := zb.out; have := hS.out; omega
            have H := ldl Z S;rw [do' I] at H;simp only [lval, Nat.mul_zero, Nat.add_zero] at H;have e1 : t = ((lm B9 Z)[S]'(by omega) : Nat) := by rw [hT.out]; congr 2; omega
            have e3 : t.toNat = (lm B9 Z)[S]'(by omega) := by omega
            rw [e3]; exact H
       go_upto_region 24 with fail;obtain ⟨Dz, zV⟩ := zex t;rw [<- zV] at za ⊢;clear t1 zV
      all_goals
       obtain ⟨xn, vL, zU⟩ := za.out
       have hp : Z / (b * f) <= Dz.toNat / ty.toNat := by
            have I := zL.out;have H : ty.toNat = (lm B9 (b * f))[S] := by have := xc.out; omega
            rw [H];exact gge I.1 zU I.2.2
       have yY := Lib.hid hp;clear hp zU;go_upto_region 25 with fail
       obtain ⟨Y, yf, yh, hX⟩ : ∃ Y : Nat, min (Dz / ty) 999999999 = (Y : Int) /\ Y <= 999999999 /\ Z / (b * f) <= Y := by
            have h0 : 0 <= Dz / ty := Int.ediv_nonneg xn (by omega);have I : (Dz / ty).toNat = Dz.toNat / ty.toNat := by
             have e1 : Dz = (Dz.toNat : Int) := by omega
             have e2 : ty = (ty.toNat : Int) := by omega
             conv => lhs; rw [e1, e2, <- Int.natCast_ediv, Int.toNat_natCast]
            have H := yY.out;have h3 := x7.out;have D : B9 = 1000000000 := rfl;generalize Z / (b * f) = Q at *;refine ⟨(min (Dz / ty) 999999999).toNat, by omega, by omega, ?_⟩;rw [<- I] at H;omega
       generalize min (Dz / ty) 999999999 = o at *;have hq : 0 <= o /\ o <= 999999999 := by omega
       have G := Lib.hid yf;have s := Lib.hid hX;have yt : (lm B9 (b * f)).length <= 1000000 := by omega
       clear yf hX g1 g2 zf zg;go_wp2_with fail;refine (si0 _ _ (b * f) Y o G.out (RdC.drewN hG.out _) yt (by unfold B9; omega)).mono ?_;rintro e w2 ⟨v2, rfl, yE, y8⟩;have xL : (wc.drewN j').heap.size = wc.heap.size := rfl;have hl : Below wc.heap.size wc w2 := (bdN wc j').trans y8;clear y8 xL;go_wp2_with fail;obtain ⟨wo, xM⟩ := zex (wr : World);subst xM;go_loopw [12, 13] (fun t12 t13 wr => ∃ (Y : Nat) (o : Int), t12 = .int .u64 o /\ Hid (o = Y) /\ 0 <= o /\ o <= 999999999 /\ Hid (Z / (b * f) <= Y) /\ Rd .u64 wr t13 (lm B9 (b * f * Y)) /\ Below wc.heap.size wc wr) (fun t12 _ _ => (intOf t12).toNat)
       case atStart => exact ⟨Y, o, rfl, G, hq.1, hq.2, s, yE, hl⟩
       case round =>
            clear G s hq yh yE hl;obtain ⟨Y, o, rfl, G, vf, vg, s, hx, V⟩ := hrel;obtain ⟨pp, cp, rfl, vW, jc, xI⟩ := hx.open;have h9 := Lib.hid hx;have xy : (lm B9 (b * f * Y)).length <= 1000000 := by
             refine Nat.le_trans (la0 B9 (b * f * Y) ((lm B9 (b * f)).length + 1) tlB ?_) (by omega);rw [Nat.pow_succ];have I := lll B9 (b * f) tlB;have H : Y < B9 := by have := G.out; have D : B9 = 1000000000 := rfl; omega
             exact Nat.mul_lt_mul_of_lt_of_le I (Nat.le_of_lt H) (by decide)
            have B : Hid (Rd .u64 wr (.slice (some ⟨b8, o8, none⟩) (lm B9 Z).length c8) (lm B9 Z)) := RdC.below hE.out V;have zK : Hid (Rd .u64 wr (.slice (some ⟨bY, oY, none⟩) (lm B9 (b * f)).length cb) (lm B9 (b * f))) := RdC.below hG.out V;have yT : wr.cell? ⟨w.heap.size, 0, none⟩ = some (.slice (some ⟨bY, oY, none⟩) (lm B9 (b * f)).length cb) := (zcq V (show w.heap.size < wc.heap.size by omega) zh :);clear hx xI;rcases Nat.lt_or_ge Z (b * f * Y) with hgt | zp
            ·have yg : 1 <= Y := by
              rcases Nat.eq_zero_or_pos Y with h0 | h0
              ·rw [h0, Nat.mul_zero] at hgt; omega
              ·exact h0
             have vh : 1 <= o := by have := G.out; omega
             have J : Hid (cmpN (b * f * Y) Z = 1) := cNg hgt;have ya : b * f <= b * f * Y := Nat.le_mul_of_pos_right _ yg;have hF : Hid (b * f * Y - b * f = b * f * (Y - 1)) := by unfold Hid; rw [Nat.mul_sub, Nat.mul_one]
             have yX : Hid (o - 1 = ((Y - 1 : Nat) : Int)) := by unfold Hid; rw [G.out]; omega
             have x9 : Hid (Z / (b * f) <= Y - 1) := by
              unfold Hid;have : Z / (b * f) < Y := Nat.div_lt_of_lt_mul hgt;omega
             clear hgt;go_wp2_with fail;refine (oay _ _ _ (b * f * Y) Z h9.out B.out).mono ?_;rintro e w3 ⟨_, rfl, rfl, j3, rfl⟩;rw [J.out];have jn : (wr.drewN j3).cell? ⟨w.heap.size, 0, none⟩ = some (.slice (some ⟨bY, oY, none⟩) (lm B9 (b * f)).length cb) := yT;go_wp2_with fail;refine (mb0 _ _ _ (b * f * Y) (b * f) (RdC.drewN h9.out _) (RdC.drewN zK.out _) ya xy).mono ?_;rintro e w4 ⟨v4, rfl, h7, N⟩;rw [hF.out] at h7;have ze : Below wc.heap.size wc w4 := V.trans (((bdN wr j3).trans N).mono V.size);clear N hF J ya;go_wp2_with fail;go_roundw
             case rel => exact ⟨Y - 1, o - 1, rfl, yX, by omega, by omega, x9, h7, ze⟩
             case measure => simp [RowKit.intOf]; omega
            ·have hp : Hid (Y = Z / (b * f)) := by
              unfold Hid;have I := s.out;have H : Y <= Z / (b * f) := by
               rw [Nat.le_div_iff_mul_le hn, Nat.mul_comm]; exact zp
              omega
             have J : ∃ cy, Hid (cy = cmpN (b * f * Y) Z) /\ cy <= 0 := ⟨_, rfl, by unfold cmpN; split; omega; rw [if_neg (by omega)]; omega⟩;obtain ⟨cy, yV, vY⟩ := J;have vd : decide (0 < cy) = false := by simp; omega
             have hF : Hid (Z - b * f * Y = Z % (b * f)) := by
              unfold Hid;have := Nat.div_add_mod Z (b * f);rw [hp.out]; omega
             have ys : (lm B9 Z).length <= 1000000 := yr;go_wp2_with fail;refine (oay _ _ _ (b * f * Y) Z h9.out B.out).mono ?_;rintro e w3 ⟨_, rfl, rfl, j3, rfl⟩;rw [<- yV.out];go_upto_region 29 with fail;have x1 : (wr.drewN j3).cell? ⟨w.heap.size + 1, 0, none⟩ = some (.slice (some ⟨g, 0, none⟩) (lm B9 (a * f)).length (lm B9 (a * f)).length) :=
              (V.cell (p := ⟨w.heap.size + 1, 0, none⟩) (show w.heap.size + 1 < wc.heap.size by omega)).trans ((zcq E (show w.heap.size + 1 < g by omega) z1 :))
             have xA : Arr .u64 (wr.drewN j3) g 193 q := Arr.drewN (Arr.below hh V) j3;have xR := RdC.drewN B.out j3;have xP := RdC.drewN h9.out j3;have xB : Below g W2 (wr.drewN j3) := E.trans ((V.trans ((bdN wr j3).mono V.size)).mono (show g <= wc.heap.size by omega));have xs : g + 1 <= (wr.drewN j3).heap.size := by have := V.size; show g + 1 <= wr.heap.size; omega
             clear V B zK h9 yT;generalize wr.drewN j3 = X at *;have xF : i < q.length := by rw [x5.out]; exact hN
             have xi := xA.cell i xF;have yR := xA.frozen i;have xh : Hid (Rd .u64 X.drew (.slice (some ⟨b8, o8, none⟩) (lm B9 Z).length c8) (lm B9 Z)) := xR;have xg : Hid (Rd .u64 X.drew (.slice pp (lm B9 (b * f * Y)).length cp) (lm B9 (b * f * Y))) := xP;have XA := Lib.hid xA;have XB := Lib.hid xB;have x0 := Lib.hid zp;clear xR xP xA xB zp;have f1 : (0 : Int) <= (i : Int) := by omega
             have f2 : (i : Int) < ((lm B9 (a * f)).length : Int) := by omega
             have y5 : X.drew.heap.size = X.heap.size := rfl;have vJ := Lib.hid y5;clear y5
             go_region_with (first
              | (go_at_call 102; refine (mfl _ _ _ Z (b * f * Y) xh.out xg.out x0.out ys).mono ?_; rintro e w4 ⟨v4, rfl, ⟨h7, yj⟩, N⟩
                 have y1 := zcq N (show w.heap.size + 1 < X.heap.size by omega) x1;have yi := zcq N (show g < X.heap.size by omega) xi;have xW := (N.frozen (p := ⟨g, i, none⟩) (show g < X.heap.size by omega)).trans yR;obtain ⟨p4, c4, rfl, vP, j4, xH⟩ := h7.open;clear xH))
             all_goals
              have zz : Hid (Value.int .u64 o = .int .u64 ((Z / (b * f) : Nat) : Int)) := by unfold Hid; rw [G.out, hp.out]
              have xe : Hid (Arr .u64 w4 g 193 q) := Arr.below (w := X.drew) XA.out N;have z7 := N.size;have xf : Hid (Below g W2 w4) := XB.out.trans ((((Below.refl X.heap.size X).drew).trans N).mono (show g <= X.heap.size by omega));have hY : FreshV (g + 1) (.slice p4 (lm B9 (Z - b * f * Y)).length c4) := fun a' l' c' e => Nat.le_trans (show g + 1 <= X.drew.heap.size from xs) (yj a' l' c' e);rw [hF.out] at *;have xd := Lib.hid h7;have vC : g + 1 <= w4.heap.size := Nat.le_trans (show g + 1 <= X.drew.heap.size from xs) z7;clear N yj h7 yi xW y1 xi yR x1 z7;go_wp2_with fail;go_roundw
              case rel =>
               exact ⟨k + 1, q.set i (Z / (b * f)), Z % (b * f), _, yo.out, rfl, by have := C.out; unfold Hid; omega, hz.out.symm, RdC.set_fresh xd.out hY _, hY, xe.out.set i _ zz.out, xf.out.setCell (Nat.le_refl _) _, by simp [World.setCell]; omega⟩
              case measure => simp [RowKit.intOf]
end Go.Proofs.YtmcbeajdloaliaaGreatDoor
