import Derived.Test.YtmcbeajdloaliaaGreatDoorUD2
import Derived.Laws.OwnMore
import Derived.BigRegion
/- Klipperef01: carry, joined, times, take, give, parts. -/
set_option maxHeartbeats 2000000
set_option maxRecDepth 100000
namespace Go.Proofs.YtmcbeajdloaliaaGreatDoor
open Go.RowKit
theorem coi (w : World) (x : Int) (E : Nat) : ∀ (j : Nat) (u : Value), [Value.int .i64 x][j]? = some u -> (w.alloc (.cells #[.int .i64 x] E)).cell? ((⟨w.heap.size, 0, none⟩ : Addr).add j) = some u := cell_one_new _ _ _
theorem oci (x : Int) : ∀ u ∈ [Value.int .i64 x], u.oneCell' = true := by intro u Z; simp at Z; subst Z; rfl
theorem msi (l : List Nat) (x : Nat) : (l.map fun x : Nat => Value.int .i64 (x : Int)) ++ [Value.int .i64 (x : Int)] = (l ++ [x]).map fun x : Nat => Value.int .i64 (x : Int) := by simp
theorem tcs (s : Int) : (0 <= s /\ s.tmod 10000 = s % 10000) \/ (s < 0 /\ s.tmod 10000 = -((-s) % 10000)) := by
 rcases Int.lt_or_le s 0 with h | h
 ·right
  refine ⟨h, ?_⟩;have : s = -(-s) := by omega
  conv => lhs; rw [this, Int.neg_tmod, Int.tmod_eq_emod_of_nonneg (by omega)]
 ·exact .inl ⟨h, Int.tmod_eq_emod_of_nonneg h⟩
theorem tet (s : Int) : (s - s % 10000).tdiv 10000 = s / 10000 := by
 have h : s - s % 10000 = 10000 * (s / 10000) := by omega
 rw [h, Int.mul_tdiv_cancel_left _ (by decide)]
theorem tng {s m : Int} (V : m = s.tmod 10000) (h : m < 0) : m + 10000 = s % 10000 /\ (s - (m + 10000)).tdiv 10000 = s / 10000 := by
 have Z : m + 10000 = s % 10000 := by
  rcases tcs s with ⟨X, Y⟩ | ⟨X, Y⟩ <;> rw [Y] at V <;> omega
 exact ⟨Z, by rw [Z]; exact tet s⟩
theorem tps {s m : Int} (V : m = s.tmod 10000) (h : ¬ m < 0) : m = s % 10000 /\ (s - m).tdiv 10000 = s / 10000 := by
 have Z : m = s % 10000 := by
  rcases tcs s with ⟨X, Y⟩ | ⟨X, Y⟩ <;> rw [Y] at V <;> omega
 exact ⟨Z, by rw [Z]; exact tet s⟩
def Few (len k : Nat) (ov : Int) : Prop := k <= len \/ ∃ f : Nat, k + f <= len + 5 /\ ov < 10000 ^ f
theorem Few.le {len k : Nat} {ov : Int} (h : Few len k ov) : k <= len + 5 := by
 rcases h with h | ⟨f, h, _⟩ <;> omega
theorem Few.step {len k : Nat} {ov s : Int} (h : Few len k ov) (V : k < len \/ (s = ov /\ 0 < ov)) (S : ov <= 100000000000000000) : Few len (k + 1) (s / 10000) := by
 rcases V with Y | ⟨rfl, U⟩
 ·exact .inl Y
 ·rcases Nat.lt_or_ge k len with Y | Y
  ·exact .inl Y
  ·have X : ∃ f : Nat, k + f <= len + 5 /\ s < 10000 ^ f := by
    rcases h with h | h
    ·exact ⟨5, by omega, by omega⟩
    ·exact h
   obtain ⟨f, R, Z⟩ := X;cases f with
   | zero => simp at Z; omega
   | succ f =>
     refine .inr ⟨f, by omega, ?_⟩;rw [Int.pow_succ] at Z;generalize (10000 : Int) ^ f = P at *;omega
theorem cm0 (w : World) (v : Value) (p : List Int) (n : Nat) (h : RdI .i64 w v p) (h4 : p.length <= 3000000) (hb : ∀ x ∈ p, -100000000000000000 <= x /\ x <= 100000000000000000) (hn : ival p = n) :
 Calls Tryz.prog 191 #[v] w (Ret (fun J w' => Rd .i64 w' J (lm B4 n) /\ FreshV w.heap.size J) w) := by
 obtain ⟨i0, f, H, G, E⟩ := info_parts Tryz.info_i64;obtain ⟨pa, c, rfl, hc, hm, r⟩ := h.open;have HN := Lib.hid hn;have I := Lib.hid hb;clear h hn hb;have h9 : c <= 9223372036854775807 := hm;go_enter Tryz.func191, Tryz.ntmps191;go_wp2;go_loopw [3, 4, 5] (fun t3 t4 t5 wr => ∃ (k : Nat) (Z : Int) (o : List Nat), t5 = .int .i64 k /\ t4 = .int .i64 Z /\ Hid (CarryInv p k Z o) /\ Few p.length k Z /\ -100000000000000000 <= Z /\ Z <= 100000000000000000 /\ wr.ownsRow w.heap.size 3 1 t3 k (o.map fun x : Nat => Value.int .i64 (x : Int)) /\ Below w.heap.size w wr)
  (fun _ t4 t5 _ => (p.length - (intOf t5).toNat) * 100000000000000001 + (intOf t4).toNat)
 case atStart => exact ⟨0, 0, [], rfl, rfl, CarryInv.start p, .inl (Nat.zero_le _), by decide, by decide, ⟨rfl, .inl ⟨rfl, rfl⟩⟩, Below.refl _ _⟩
 case round =>
  obtain ⟨k, Z, o, rfl, rfl, D, K, ha, A, Y, V⟩ := hrel;have h7 := K.le;have h8 : k <= 4000000 := by omega
  rcases Nat.lt_or_ge k p.length with N | N
  ·have a : p ≠ [] := List.ne_nil_of_length_pos (by omega)
   obtain ⟨b, off, rfl, l, L⟩ := r a;have j := zcq V l (L k N);obtain ⟨x, hx⟩ := zex (p[k]);rw [<- hx] at j;have he : -100000000000000000 <= x /\ x <= 100000000000000000 := by rw [hx]; exact I.out _ (List.getElem_mem N)
   have Q : Hid (CarryInv p (k + 1) ((Z + x) / 10000) (o ++ [((Z + x) % 10000).toNat])) := D.out.step (by rw [hx, List.getElem?_eq_getElem N]; rfl) I.out;have R := K.step (s := Z + x) (.inl N) A;have hd : -200000000000000000 <= Z + x /\ Z + x <= 200000000000000000 := by omega
   have HX := Lib.hid hx;clear L r hx;by_cases hneg : (Z + x).tmod 10000 < 0
   ·have d : -10000 < (Z + x).tmod 10000 := by
     rcases tcs (Z + x) with ⟨m, C⟩ | ⟨m, C⟩ <;> rw [C] <;> omega
    have M := Lib.hid (tng (s := Z + x) rfl hneg);have i : -20000000000001 <= (Z + x) / 10000 /\ (Z + x) / 10000 <= 20000000000000 := by omega
    go_wp2_with (first | (at_builtin; refine wpList_append_own _ rfl _ _ 66 rfl w.heap.size 3 i0 (.int .i64 0) 1 8 Tryz.underlying66 f H G E rfl (by decide) _ _ _ rfl (Y.alloc _) ⟨wr.heap.size, 0, none⟩ 1 1 [.int .i64 ((Z + x).tmod 10000 + 10000)] rfl rfl (coi _ _ _) (oci _) (by unfold maxLen; omega) (by omega) (by have := V.size; simp; omega) ?_));intro J t X U _;have S : t.ownsRow w.heap.size 3 1 J (k + 1) ((o ++ [((Z + x) % 10000).toNat]).map fun x : Nat => Value.int .i64 (x : Int)) := by
     rw [<- msi];have e : ((Z + x).tmod 10000 + 10000 : Int) = ((((Z + x) % 10000).toNat : Nat) : Int) := by rw [M.out.1]; omega
     rw [<- e]; exact X
    have O := bad V V.size Y U;clear X Y U V;go_wp2;go_roundw
    case rel => exact ⟨k + 1, _, _, by go_num, rfl, by rw [M.out.2]; exact Q, by rw [M.out.2]; exact R, by rw [M.out.2]; omega, by rw [M.out.2]; omega, S, O⟩
    case measure => simp [intOf, M.out.2]; omega
   ·have d : 0 <= (Z + x).tmod 10000 /\ (Z + x).tmod 10000 < 10000 := by
     rcases tcs (Z + x) with ⟨m, C⟩ | ⟨m, C⟩ <;> rw [C] at hneg ⊢ <;> omega
    have M := Lib.hid (tps (s := Z + x) rfl hneg);have i : -20000000000001 <= (Z + x) / 10000 /\ (Z + x) / 10000 <= 20000000000000 := by omega
    go_wp2_with (first | (at_builtin; refine wpList_append_own _ rfl _ _ 66 rfl w.heap.size 3 i0 (.int .i64 0) 1 8 Tryz.underlying66 f H G E rfl (by decide) _ _ _ rfl (Y.alloc _) ⟨wr.heap.size, 0, none⟩ 1 1 [.int .i64 ((Z + x).tmod 10000)] rfl rfl (coi _ _ _) (oci _) (by unfold maxLen; omega) (by omega) (by have := V.size; simp; omega) ?_));intro J t X U _;have S : t.ownsRow w.heap.size 3 1 J (k + 1) ((o ++ [((Z + x) % 10000).toNat]).map fun x : Nat => Value.int .i64 (x : Int)) := by
     rw [<- msi];have e : ((Z + x).tmod 10000 : Int) = ((((Z + x) % 10000).toNat : Nat) : Int) := by rw [M.out.1]; omega
     rw [<- e]; exact X
    have O := bad V V.size Y U;clear X Y U V;go_wp2;go_roundw
    case rel => exact ⟨k + 1, _, _, by go_num, rfl, by rw [M.out.2]; exact Q, by rw [M.out.2]; exact R, by rw [M.out.2]; omega, by rw [M.out.2]; omega, S, O⟩
    case measure => simp [intOf, M.out.2]; omega
  ·have h5 : 0 <= Z := D.out.nonneg N HN.out
   have h1 : ¬ k < p.length := by omega
   by_cases hz : Z = 0
   ·subst hz
    have q : Hid (dropZ o = lm B4 n) := D.out.done N HN.out;have B : o.length = k := D.out.1;have h0 : Rd .i64 wr _ o := Rd.of_owns rfl (by rw [B]; exact Y);have g := FreshV.of_owns Y;clear B r Y;go_wp2_with (go_at_call 189; refine (c4f _ _ _ h0).mono ?_; rintro e w3 ⟨v3, rfl, y, rfl⟩);go_ret;exact ⟨_, rfl, ⟨q.out ▸ y.1, y.2 _ g⟩, V⟩
   ·have h6 : (Z != 0) = true := by rw [bne_iff_ne]; exact hz
    have z : 0 < Z := by omega
    have Q : Hid (CarryInv p (k + 1) (Z / 10000) (o ++ [(Z % 10000).toNat])) := D.out.step (by rw [List.getElem?_eq_none N]; simp) I.out;have R := K.step (s := Z) (.inr ⟨rfl, z⟩) A;clear hz r;go_wp2_with (first | (at_builtin; refine wpList_append_own _ rfl _ _ 66 rfl w.heap.size 3 i0 (.int .i64 0) 1 8 Tryz.underlying66 f H G E rfl (by decide) _ _ _ rfl (Y.alloc _) ⟨wr.heap.size, 0, none⟩ 1 1 [.int .i64 (Z % 10000)] rfl rfl (coi _ _ _) (oci _) (by unfold maxLen; omega) (by omega) (by have := V.size; simp; omega) ?_));intro J t X U _;have S : t.ownsRow w.heap.size 3 1 J (k + 1) ((o ++ [(Z % 10000).toNat]).map fun x : Nat => Value.int .i64 (x : Int)) := by
     rw [<- msi];have e : (Z % 10000 : Int) = (((Z % 10000).toNat : Nat) : Int) := by omega
     rw [<- e]; exact X
    have O := bad V V.size Y U;clear X Y U V;go_wp2;go_roundw
    case rel => exact ⟨k + 1, _, _, by go_num, rfl, by rw [show (Z - Z % 10000) / 10000 = Z / 10000 by omega]; exact Q, by rw [show (Z - Z % 10000) / 10000 = Z / 10000 by omega]; exact R, by omega, by omega, S, O⟩
    case measure => simp [intOf]; omega
theorem ose {w : World} {base e n sz : Nat} {v : Value} {cs : List Value} (h : w.ownsRow base e sz v n cs) : ∃ p c, v = .slice p n c /\ (0 < n -> ∃ g, p = some ⟨g, 0, none⟩ /\ base <= g) := by
 rcases h.2 with ⟨Z, Y⟩ | ⟨g, cap, X, Z, V, _⟩
 ·exact ⟨none, 0, by rw [Z, Y], fun h3 => absurd Y (by omega)⟩
 ·exact ⟨_, cap, Z, fun _ => ⟨g, rfl, V⟩⟩
theorem j4a (w : World) (va vb : Value) (a b n : Nat) (X : Int) (ha : Rd .i64 w va (lm B4 a)) (hb : Rd .i64 w vb (lm B4 b)) (hk : -10000 <= X /\ X <= 10000) (hn : (a : Int) + X * b = n)
 (ho : (lm B4 a).length <= 1000000) (hM : (lm B4 b).length <= 1000000) :
 Calls Tryz.prog 162 #[va, vb, .int .i64 X, .int .i64 0] w (Ret (fun v' w' => Rd .i64 w' v' (lm B4 n) /\ FreshV w.heap.size v') w) := by
 obtain ⟨i0, hi, hC, hD, hE⟩ := info_parts Tryz.info_i64;obtain ⟨pa, c, rfl, hc, hm, hr⟩ := ha.open;obtain ⟨q, d, rfl, hd, hN, hs⟩ := hb.open;have z4 : c <= 9223372036854775807 := hm;have z5 : d <= 9223372036854775807 := hN;have HX := Lib.hid (lm_lt B4 a ta0);have HY := Lib.hid (lm_lt B4 b ta0);have HN : Hid (ival (jl (lm B4 a) (lm B4 b) X (lm B4 b).length) = n) := by
  unfold Hid;rw [ijl _ _ _ _ (Nat.le_refl _), List.take_length, llm B4 a ta0, llm B4 b ta0]; exact hn
 clear ha hb hn;generalize lm B4 a = x at *;generalize lm B4 b = y at *;have o : Hid ((x.map fun x : Nat => Value.int .i64 (x : Int)) = (jl x y X 0).map fun x : Int => Value.int .i64 x) := by
  unfold Hid; rw [jzo, List.map_map]; rfl
 have I : (w.alloc (.cells #[] 3)).ownsRow w.heap.size 3 1 (.slice (some ⟨w.heap.size, 0, none⟩) 0 0) 0 [] :=
  ⟨rfl, .inr ⟨w.heap.size, 0, _, rfl, Nat.le_refl _, heap_alloc_new _ _, Nat.le_refl _, by unfold maxLen; omega, rfl, rfl⟩⟩
 have K : Below w.heap.size w (w.alloc (.cells #[] 3)) := zal _ _;rcases Nat.eq_zero_or_pos x.length with hy | hA
 case' inl =>
  obtain rfl := List.length_eq_zero_iff.1 hy;cases pa;all_goals
   go_enter Tryz.func162, Tryz.ntmps162;go_wp2_with fail
  all_goals
   obtain ⟨x, hR, h7, h4, Z⟩ : ∃ x : List Nat, x.length <= 1000000 /\ Hid (∀ z ∈ x, z < B4) /\ Hid (ival (jl x y X y.length) = n) /\
    (w.alloc (.cells #[] 3)).ownsRow w.heap.size 3 1 (.slice (some ⟨w.heap.size, 0, none⟩) 0 0) (jl x y X 0).length ((jl x y X 0).map fun x : Int => Value.int .i64 x) :=
    ⟨[], by simp, HX, HN, by rw [<- o.out, jlh]; exact I⟩
   clear HX HN hy o I hr hc ho;have HX := h7;have HN := h4;clear h7 h4;generalize (w.alloc (.cells #[] 3)) = w2 at *;generalize (Value.slice (some ⟨w.heap.size, 0, none⟩) 0 0) = v' at *
 case' inr =>
  have hp : x ≠ [] := List.ne_nil_of_length_pos hA;obtain ⟨bx, ox, rfl, hT, hf⟩ := hr hp;have G : ∀ j u, (x.map fun x : Nat => Value.int .i64 (x : Int))[j]? = some u -> (w.alloc (.cells #[] 3)).cell? ((⟨bx, ox, none⟩ : Addr).add j) = some u := by
   intro j u hu;have hj : j < x.length := by have := (List.getElem?_eq_some_iff.1 hu).1; simpa using this
   rw [List.getElem?_map, List.getElem?_eq_getElem hj] at hu;cases hu;rw [aad];show (w.alloc (.cells #[] 3)).cell? ⟨bx, ox + j, none⟩ = some (.int .i64 ((x[j] : Nat) : Int));exact cal _ (hf j hj)
  have H : ∀ u ∈ x.map fun x : Nat => Value.int .i64 (x : Int), u.oneCell' = true := by
   intro u hu;obtain ⟨y, _, rfl⟩ := List.mem_map.1 hu;rfl
  have hR : x.length <= 1000000 := ho;have O := Lib.hid G;clear hf hr G;go_enter Tryz.func162, Tryz.ntmps162;go_wp2_with (first | (at_builtin; refine wpList_append_own _ rfl _ _ 66 rfl w.heap.size 3 i0 (.int .i64 0) 1 8 Tryz.underlying66 hi hC hD hE rfl (by decide) _ _ _ rfl I ⟨bx, ox, none⟩ x.length c (x.map fun x : Nat => Value.int .i64 (x : Int)) rfl (by simp) O.out H (by unfold maxLen; omega) (by omega) (by simp) ?_));intro v' w2 Z U _;have v := K.grown U (by simp) (fun k hk => by have e : w.heap.size = k := (Option.some.inj hk); omega);rw [o.out] at Z;have e0 : x.length = (jl x y X 0).length := by rw [jlh]; omega
  rw [e0] at Z;clear K U O H e0 hp hA;have K := v;clear v;go_wp2_with fail
 all_goals
  go_loopw [9, 10] (fun t9 t10 wr => ∃ i : Nat, i <= y.length /\ t10 = .int .i64 i /\ wr.ownsRow w.heap.size 3 1 t9 (jl x y X i).length ((jl x y X i).map fun x : Int => Value.int .i64 x) /\ Below w.heap.size w wr) (fun _ t10 _ => y.length - (intOf t10).toNat)
  case atStart => exact ⟨0, Nat.zero_le _, rfl, Z, K⟩
  case round =>
   clear Z K;obtain ⟨i, z2, rfl, Y, V⟩ := hrel;have z1 : i <= 1000000 := by omega
   rcases Nat.lt_or_ge i y.length with D | D
   ·go_wp2_with fail
    obtain ⟨wo, hQ⟩ := zex (wr : World);subst hQ;obtain ⟨p0, c0, rfl, _⟩ := ose Y;go_loopw [9] (fun t9 wr => ∃ (L : List Int) (p1 : Option Addr) (c1 : Nat), t9 = .slice p1 L.length c1 /\ (0 < L.length -> ∃ g, p1 = some ⟨g, 0, none⟩ /\ w.heap.size <= g) /\ Hid (L = jl x y X i \/ (x.length <= i /\ L = jl x y X i ++ [0])) /\ L.length <= 1000001 /\ i <= L.length /\ L.length <= max x.length (i + 1) /\ wr.ownsRow w.heap.size 3 1 t9 L.length (L.map fun x : Int => Value.int .i64 x) /\ Below w.heap.size w wr)
     (fun t9 _ => i + 1 - (match t9 with | .slice _ n _ => n | _ => 0))
    case atStart =>
     obtain ⟨p9, c9, e9, h9⟩ := ose Y;cases e9;exact ⟨_, _, _, rfl, h9, .inl rfl, by rw [jlh]; omega, by rw [jlh]; omega, by rw [jlh]; omega, Y, V⟩
    case round =>
     clear Y V;obtain ⟨L, p1, c1, rfl, hv, hL, hX, hY, hZ, Y, V⟩ := hrel;rcases Nat.lt_or_ge i L.length with m | m
     ·obtain ⟨g, rfl, hg⟩ := hv (by omega)
      have J := Y.cellAt i (by omega);rw [List.getElem?_map, List.getElem?_eq_getElem m, Option.map_some] at J;have hU := Y.frozenAt i;have hq : y ≠ [] := List.ne_nil_of_length_pos (by omega);obtain ⟨bY, hV, rfl, he, S⟩ := hs hq;have hK := zcq V he (S i D);have hS : y[i] < B4 := HY.out _ (List.getElem_mem D);obtain ⟨Q, B⟩ := zex ((y[i] : Int));obtain ⟨A, R⟩ := zex (L[i]);rw [<- B] at hK;rw [<- R] at J;have r : 0 <= Q /\ Q < 10000 := by unfold B4 at hS; omega
      have hM : -100010000 <= A /\ A <= 100010000 := by
       rcases hL.out with e | ⟨_, e⟩
       ·exact jbd HX.out HY.out hk i _ (by rw [R]; subst e; exact List.getElem_mem _)
       ·have hO : A ∈ jl x y X i ++ [0] := by rw [R]; subst e; exact List.getElem_mem _
        rcases List.mem_append.1 hO with h5 | h5
        ·exact jbd HX.out HY.out hk i _ h5
        ·simp at h5; omega
      have z3 : -100000000 <= X * Q /\ X * Q <= 100000000 := by
       rcases Int.le_total 0 X with h0 | h0
       ·have h1 : X * Q <= 10000 * 10000 := Int.mul_le_mul hk.2 (by omega) (by omega) (by omega)
        have h2 : 0 <= X * Q := Int.mul_nonneg h0 r.1;omega
       ·have h1 : (-X) * Q <= 10000 * 10000 := Int.mul_le_mul (by omega) (by omega) (by omega) (by omega)
        have h2 : 0 <= (-X) * Q := Int.mul_nonneg (by omega) r.1;rw [Int.neg_mul] at h1 h2;omega
      have t : Hid (L.set i (A + X * Q) = jl x y X (i + 1)) := by
       unfold Hid;have hB : y[i]?.getD 0 = y[i] := by rw [List.getElem?_eq_getElem D]; rfl
       rcases hL.out with e | ⟨C, e⟩
       ·have hl : i < x.length := by rw [e, jlh] at m; omega
        have h5 := jai x y X i hl (by rw [jlh]; omega);have h6 : A = (x[i] : Int) := by rw [R, <- h5]; subst e; rfl
        rw [<- jsi x y X i hl _ rfl, e, h6, B, hB]
       ·have h6 : A = 0 := by
         rw [R]; subst e;rw [List.getElem_append_right (by rw [jlh]; omega)]; simp
        rw [<- jsa x y X i C, e, h6, B, hB]
      have E : wr.drew.ownsRow w.heap.size 3 1 (.slice (some ⟨g, 0, none⟩) L.length c1) L.length (L.map fun x : Int => Value.int .i64 x) := Y;have h3 := E.stored i (.int .i64 (A + X * Q));rw [List.map_set.symm] at h3;have Z : (wr.drew.setCell ⟨g, i, none⟩ (.int .i64 (A + X * Q))).ownsRow w.heap.size 3 1 (.slice (some ⟨g, 0, none⟩) L.length c1) (jl x y X (i + 1)).length ((jl x y X (i + 1)).map fun x : Int => Value.int .i64 x) := by
       rw [<- t.out, List.length_set]; exact h3.1
      have M := V.drew.setCell (p := ⟨g, i, none⟩) hg (.int .i64 (A + X * Q));clear h3 t hL hs S B R hv;clear E;have f1 : (0 : Int) <= (i : Int) := by omega
      have f2 : (i : Int) < (L.length : Int) := by omega
      have f3 : (i : Int) < (y.length : Int) := by omega
      go_wp2;go_region;go_wp2;go_roundw
      case rel => exact ⟨i + 1, by omega, by go_num, Z, M⟩
      case measure => simp [intOf]; omega
     ·have N : L.length = i := by omega
      have C : Hid (L = jl x y X i /\ x.length <= i) := by
       rcases hL.out with e | ⟨h1, e⟩
       ·refine ⟨e, ?_⟩
        rw [e, jlh] at N; omega
       ·exfalso
        rw [e, List.length_append, jlh] at N;simp at N; omega
      have hW := Lib.hid N;clear hL N;go_wp2_with (first | (at_builtin; refine wpList_append_own _ rfl _ _ 66 rfl w.heap.size 3 i0 (.int .i64 0) 1 8 Tryz.underlying66 hi hC hD hE rfl (by decide) _ _ _ rfl (Y.alloc _) ⟨wr.heap.size, 0, none⟩ 1 1 [.int .i64 0] rfl rfl (coi _ _ _) (oci _) (by unfold maxLen; omega) (by omega) (by have := V.size; simp; omega) ?_));intro v' w2 Z U _;obtain ⟨p3, c3, rfl, s⟩ := ose Z;have f : w2.ownsRow w.heap.size 3 1 (.slice p3 (L.length + 1) c3) (L ++ [0]).length ((L ++ [0]).map fun x : Int => Value.int .i64 x) := by
       rw [List.map_append, List.length_append]; exact Z
      have M := bad V V.size Y U;have hH : Hid (L ++ [0] = jl x y X i ++ [0]) := by unfold Hid; rw [C.out.1]
      have hw : 0 < (L ++ [0]).length -> ∃ g, p3 = some ⟨g, 0, none⟩ /\ w.heap.size <= g := fun _ => s (by omega)
      have hP : Hid (Value.slice p3 (L.length + 1) c3 = Value.slice p3 (L ++ [0]).length c3) := by unfold Hid; rw [List.length_append]; rfl
      clear Z Y U V s;go_wp2;go_roundw
      case rel => exact ⟨L ++ [0], p3, c3, hP.out, hw, .inr ⟨C.out.2, hH.out⟩, by simp; omega, by simp; omega, by simp; omega, f, M⟩
      case measure =>
       show i + 1 - (L.length + 1) < i + 1 - L.length;omega
   ·have hh : i = y.length := by omega
    have ht := RdI.of_owns rfl Y;have z0 := FreshV.of_owns Y;have h : (jl x y X i).length <= 3000000 := by rw [jlh]; omega
    have h8 : ∀ z ∈ jl x y X i, -100000000000000000 <= z /\ z <= 100000000000000000 := fun z hz => by
     have := jbd HX.out HY.out hk i z hz; omega
    have hF := Lib.hid h8;have HV : Hid (ival (jl x y X i) = n) := by rw [hh]; exact HN
    have hG := Lib.hid ht;clear Y hh h8 ht;go_wp2_with (go_at_call 191; refine (cm0 _ _ _ n hG.out h hF.out HV.out).mono ?_; rintro e w3 ⟨v3, rfl, hx, hJ⟩);go_ret;exact ⟨_, rfl, ⟨hx.1, fun a l c e => Nat.le_trans V.size (hx.2 a l c e)⟩, (zbt V hJ)⟩
def ArrI (k : IntKind) (w : World) (g E : Nat) (o : List Int) : Prop := w.heap[g]? = some (.cells (o.map fun x : Int => Value.int k x).toArray E (0, 0))
theorem ArrI.cell {k : IntKind} {w : World} {g E : Nat} {o : List Int} (h : ArrI k w g E o) (j : Nat) (Z : j < o.length) : w.cell? ⟨g, j, none⟩ = some (.int k (o[j])) := by
 rw [cell_of_row w g j _ E (0, 0) h];simp [Z]
theorem ArrI.frozen {k : IntKind} {w : World} {g E : Nat} {o : List Int} (h : ArrI k w g E o) (j : Nat) : w.frozen? ⟨g, j, none⟩ = false := by
 unfold World.frozen?;rw [h];simp
theorem ArrI.lt {k : IntKind} {w : World} {g E : Nat} {o : List Int} (h : ArrI k w g E o) : g < w.heap.size := (Array.getElem?_eq_some_iff.1 h).1
theorem ArrI.set {k : IntKind} {w : World} {g E : Nat} {o : List Int} (h : ArrI k w g E o) (j : Nat) (v : Int) : ArrI k (w.setCell ⟨g, j, none⟩ (.int k v)) g E (o.set j v) := by
 unfold ArrI at *;have Y : g < w.heap.size := (Array.getElem?_eq_some_iff.1 h).1;have Z := (Array.getElem?_eq_some_iff.1 h).2;simp only [World.setCell, Array.getElem?_modify, if_pos, h, Option.map_some];simp [List.map_set]
theorem ArrI.rd {k : IntKind} {w : World} {g E : Nat} {o : List Int} (h : ArrI k w g E o) (Y : o.length <= maxLen) : RdI k w (.slice (some ⟨g, 0, none⟩) o.length o.length) o := by
 refine ⟨_, _, rfl, Nat.le_refl _, Y, by simp, fun _ => ⟨g, 0, rfl, fun i x hx => ?_⟩⟩;have Z : i < o.length := by have := (List.getElem?_eq_some_iff.1 hx).1; simpa using this
 rw [Nat.zero_add, h.cell i Z];simp [Z] at hx;rw [hx]
theorem ArrI.drewN {k : IntKind} {w : World} {g E : Nat} {o : List Int} (h : ArrI k w g E o) (n : Nat) : ArrI k (w.drewN n) g E o := h
def dsl (s : ByteArray) (a b : Nat) : Nat := dval ((s.data.toList.take b).drop a)
theorem dsf (s : ByteArray) (a : Nat) : dsl s a a = 0 := by
 unfold dsl; rw [List.drop_eq_nil_of_le (by simp; omega)]; rfl
theorem dd0 (s : ByteArray) (a b : Nat) (h : b < s.size) (Z : a <= b) : dsl s a (b + 1) = 10 * dsl s a b + (s[b].toNat - 48) := by
 unfold dsl;have Y : b < s.data.toList.length := by simpa using h
 rw [List.take_succ_eq_append_getElem Y, List.drop_append_of_le_length (by simp; omega), dsc];rfl
theorem dl0 (s : ByteArray) (a b : Nat) (Z : ∀ c ∈ s.data.toList, isDig c) (Y : b <= a + 4) : dsl s a b < 10000 := by
 unfold dsl;refine Nat.lt_of_lt_of_le (dlt _ fun c hc => Z c (List.mem_of_mem_take (List.mem_of_mem_drop hc))) ?_;show 10 ^ _ <= 10 ^ 4;refine Nat.pow_le_pow_right (by decide) ?_;rw [List.length_drop, List.length_take]; omega
theorem dat (s : ByteArray) (Y : ∀ c ∈ s.data.toList, isDig c) (b : Nat) (h : b < s.size) : 48 <= s[b].toNat /\ s[b].toNat <= 57 := by
 have Z : b < s.data.toList.length := by simpa using h
 exact Y (s.data.toList[b]) (List.getElem_mem Z)
theorem t4a (w : World) (s : ByteArray) (hd : ∀ c ∈ s.data.toList, isDig c) (h6 : s.size <= 3000000) :
 Calls Tryz.prog 161 #[.string s] w (Ret (fun v w' => Rd .i64 w' v (lm B4 (dval s.data.toList)) /\ FreshV w.heap.size v) w) := by
 obtain ⟨i0, hi, h2, h3, h4⟩ := info_parts Tryz.info_i64;have q := Lib.hid hd;have y : s.data.toList.length = s.size := by rw [Array.length_toList]; rfl
 have J := Lib.hid y;clear hd y;go_enter Tryz.func161, Tryz.ntmps161;go_wp2_with fail;go_loopw [3, 4] (fun t3 t4 wr => ∃ (m k : Nat) (U : Int) (o : List Nat), t4 = .int .i64 U /\ U <= m /\ (0 < U -> U = m) /\ (U <= 0 -> m = 0) /\ m <= s.size /\ m + k <= s.size + 1 /\ -4 <= U /\ Hid (TakeInv s.data.toList m k o) /\ wr.ownsRow w.heap.size 3 1 t3 k (o.map fun x : Nat => Value.int .i64 (x : Int)) /\ Below w.heap.size w wr)
  (fun _ t4 _ => (intOf t4 + 4).toNat)
 case atStart => exact ⟨s.size, 0, _, [], rfl, Int.le_refl _, fun _ => rfl, fun h => by omega, Nat.le_refl _, by omega, by omega, by rw [<- J.out]; exact TakeInv.start _, ⟨rfl, .inl ⟨rfl, rfl⟩⟩, Below.refl _ _⟩
 case round =>
  obtain ⟨m, k, U, o, rfl, f, N, M, hh, hf, d, I, Z, Y⟩ := hrel;have hc : k <= 3000001 := by omega
  rcases Int.lt_or_le 0 U with A | B
  ·obtain rfl := N A
   clear f N d M;have hg : 0 < m := by omega
   go_wp2_with fail;obtain ⟨wo, h1⟩ := zex (wr : World);subst h1;obtain ⟨a, ha⟩ := zex (m - 4);have g : a <= m := by omega
   have h5 : m <= a + 4 := by omega
   have HA := Lib.hid ha;have C : Hid (max 0 ((m : Int) - 4) = (a : Int)) := by unfold Hid; omega
   clear ha;rw [C.out];go_loopw [5, 6] (fun t5 t6 wr => ∃ (j : Nat) (V : Int), a <= j /\ j <= m /\ t6 = .int .i64 j /\ t5 = .int .i64 V /\ Hid (V = (dsl s a j : Nat)) /\ 0 <= V /\ V < 10000 /\ wr = wo) (fun _ t6 _ => m - (intOf t6).toNat)
   case atStart => exact ⟨a, 0, Nat.le_refl _, g, rfl, rfl, by unfold Hid; rw [dsf]; rfl, by omega, by omega, rfl⟩
   case round =>
    obtain ⟨j, V, i, hb, rfl, rfl, O, hj, hk, rfl⟩ := hrel;have h9 : j <= 3000000 := by omega
    rcases Nat.lt_or_ge j m with he | h8
    ·have G : j < s.size := by omega
     have h7 := dat s q.out j G;have t : Hid (dsl s a (j + 1) = 10 * dsl s a j + (s[j].toNat - 48)) := dd0 s a j G i;have D := dl0 s a (j + 1) q.out (by omega);have K : Hid (10 * V + (s[j].toNat : Int) - 48 = (dsl s a (j + 1) : Nat)) := by
      unfold Hid; rw [t.out, O.out]; omega
     have Q : Hid (0 <= 10 * V + (s[j].toNat : Int) - 48 /\ 10 * V + (s[j].toNat : Int) - 48 < 10000) := by unfold Hid; rw [K.out]; omega
     clear D t;go_wp2_with fail;go_roundw
     case rel => exact ⟨j + 1, _, by omega, by omega, by go_num, rfl, K, Q.out.1, Q.out.2, trivial⟩
     case measure => simp [intOf]; omega
    ·have R : j = m := by omega
     have HX : Hid (TakeInv s.data.toList (m - 4) (k + 1) (o ++ [dsl s a m])) := I.out.step q.out (by rw [J.out]; omega) (by unfold dsl; rw [HA.out]);have p : Hid (V = (dsl s a m : Nat)) := by rw [<- R]; exact O
     clear R O I;go_wp2_with (first | (at_builtin; refine wpList_append_own _ rfl _ _ 66 rfl w.heap.size 3 i0 (.int .i64 0) 1 8 Tryz.underlying66 hi h2 h3 h4 rfl (by decide) _ _ _ rfl (Z.alloc _) ⟨wr.heap.size, 0, none⟩ 1 1 [.int .i64 V] rfl rfl (coi _ _ _) (oci _) (by unfold maxLen; omega) (by omega) (by have := Y.size; simp; omega) ?_));intro v' w2 X S _;have L : w2.ownsRow w.heap.size 3 1 v' (k + 1) ((o ++ [dsl s a m]).map fun x : Nat => Value.int .i64 (x : Int)) := by
      rw [<- msi, <- p.out]; exact X
     have H := bad Y Y.size Z S;clear X Z S Y;go_wp2_with fail;go_roundw
     case rel => exact ⟨m - 4, k + 1, _, _, rfl, by omega, by omega, by omega, by omega, by omega, by omega, HX, L, H⟩
     case measure => simp [intOf]; omega
  ·have l : Hid (dropZ o = lm B4 (dval s.data.toList)) := by
    have h0 := M B;rw [h0] at I;exact I.out.done
   have E : o.length = k := I.out.1;have z : Rd .i64 wr _ o := Rd.of_owns rfl (by rw [E]; exact Z);have b := FreshV.of_owns Z;have n := Lib.hid z;clear E Z N M z;go_wp2_with fail;refine (c4f _ _ _ n.out).mono ?_;rintro e w3 ⟨v3, rfl, r, rfl⟩;go_wp2_with fail;go_ret;exact ⟨_, rfl, ⟨l.out ▸ r.1, r.2 _ b⟩, Y⟩
open Go.Lib
theorem ba0 (a b : ByteArray) : (a ++ b).data.toList = a.data.toList ++ b.data.toList := by simp [ByteArray.data_append]
theorem p4l (x : Nat) (hx : x < 10000) : (pad 4 x).length = 4 := plh 4 x (by decide) hx
theorem dld {n j : Nat} (Z : j < (lm B4 n).length) : (decDigits (lval B4 ((lm B4 n).drop j))).length <= 4 * ((lm B4 n).length - j) := by
 rw [ldD _ _ (by omega)];have h := llt B4 ((lm B4 n).drop j) (fun x hx => lm_lt B4 n ta0 x (List.mem_of_mem_drop hx));rw [List.length_drop] at h;rw [Nat.pow_mul];exact h
theorem gc0 (w : World) (v : Value) (n : Nat) (h : Rd .i64 w v (lm B4 n)) (h0 : (lm B4 n).length <= 3000000) (hg : Good w) :
 Calls Tryz.prog 192 #[v] w (Ret (fun r _ => r = .string (BS (decDigits n))) w) := by
 obtain ⟨p, c, rfl, hc, hm, e⟩ := h.open;have hb : c <= 9223372036854775807 := hm;rcases Nat.eq_zero_or_pos n with rfl | hn
 ·rw [lzo] at *
  have HZ : Hid (BS (decDigits 0) = ⟨#[48]⟩) := by unfold Hid; rw [dDz]; rfl
  clear h e;go_enter Tryz.func192, Tryz.ntmps192;go_wp2_with fail;go_ret;exact ⟨_, rfl, congrArg Value.string HZ.out.symm, Below.refl _ _⟩
 ·have O : lm B4 n ≠ [] := lnn B4 n ta0 hn
  obtain ⟨b, off, rfl, o, Z⟩ := e O;have ha : 0 < (lm B4 n).length := List.length_pos_iff.2 O;have f : ((((lm B4 n).length : Nat) : Int) == 0) = false := by rw [beq_eq_false_iff_ne]; omega
  have E := Z ((lm B4 n).length - 1) (by omega);obtain ⟨B, N⟩ := zex (((lm B4 n)[(lm B4 n).length - 1]'(by omega) : Nat) : Int);rw [<- N] at E;have d : ((lm B4 n)[(lm B4 n).length - 1]'(by omega) : Nat) < 10000 := lm_lt B4 n ta0 _ (List.getElem_mem (show (lm B4 n).length - 1 < (lm B4 n).length by omega));have h3 : 0 <= B /\ B < 10000 := by omega
  have t := Lib.hid N;have R := Lib.hid Z;have A := Lib.hid (lm_lt B4 n ta0);clear h e Z N d O;go_enter Tryz.func192, Tryz.ntmps192;go_wp2_with fail;refine zR (iay B (by omega) (by omega) _ hg) fun w1 hb1 => ?_;have hS : Hid (IS B = BS (decDigits (lval B4 ((lm B4 n).drop ((lm B4 n).length - 1))))) := by
   unfold Hid;rw [(glt (show (lm B4 n).length - 1 < (lm B4 n).length by omega)).1, t.out, <- ib0]; rfl
  rw [hS.out];go_wp2_with fail;go_loopw [3, 4] (fun t3 t4 wr => ∃ (j : Nat) (U : Int) (S : ByteArray), t4 = .int .i64 U /\ Hid (U = (j : Int) - 1) /\ -1 <= U /\ U < (lm B4 n).length /\ j < (lm B4 n).length /\ t3 = .string S /\ Hid (S = BS (decDigits (lval B4 ((lm B4 n).drop j)))) /\ Below w.heap.size w wr) (fun _ t4 _ => (RowKit.intOf t4 + 1).toNat)
  case atStart => exact ⟨(lm B4 n).length - 1, _, _, rfl, by unfold Hid; omega, by omega, by omega, by omega, rfl, rfl, hb1⟩
  case round =>
   clear hb1 E f;obtain ⟨j, U, S, rfl, a, Q, h9, g, rfl, y, X⟩ := hrel;rcases Int.lt_or_le U 0 with h2 | h8
   ·have k : Hid (S = BS (decDigits n)) := by
     have : j = 0 := by have := a.out; omega
     unfold Hid;rw [y.out, this, List.drop_zero, llm B4 n ta0]
    go_wp2_with fail;go_ret;exact ⟨_, rfl, congrArg Value.string k.out, X⟩
   ·obtain ⟨i, rfl⟩ : ∃ i : Nat, U = (i : Int) := ⟨U.toNat, by omega⟩
    have D : Hid (j = i + 1) := by have := a.out; unfold Hid; omega
    have Y : i < (lm B4 n).length := by omega
    have m := zcq X o (R.out i Y);have M : ((lm B4 n)[i] : Nat) < 10000 := A.out _ (List.getElem_mem Y);obtain ⟨K, L⟩ := zex (((lm B4 n)[i] : Nat) : Int);rw [<- L] at m;have h4 : 0 <= K /\ K < 10000 := by omega
    have s := Lib.hid L;have h5 : S.size <= 12000000 := by
     have := dld g;rw [y.out, Bse]; omega
    have J : Hid (IS (10000 + K) = BS (49 :: pad 4 (lm B4 n)[i])) := by
     unfold Hid;have h1 := dc0 1 4 (lm B4 n)[i] (by decide) (by decide) M;rw [show 1 * 10 ^ 4 + (lm B4 n)[i] = 10000 + (lm B4 n)[i] from rfl, decDigits_one (i := 1) (by omega)] at h1;rw [s.out, show (10000 + ((lm B4 n)[i] : Nat) : Int) = ((10000 + (lm B4 n)[i] : Nat) : Int) by omega];unfold IS;rw [ib0, h1]; rfl
    have l := hg.below X;have C := p4l (lm B4 n)[i] M;have z := Lib.hid C;clear M L Q C;go_wp2_with fail;refine zR (iay (10000 + K) (by omega) (by omega) _ l) fun w2 hb2 => ?_;have V : Hid ((IS (10000 + K)).size = 5) := by unfold Hid; rw [J.out, Bse, List.length_cons, z.out]
    generalize IS (10000 + K) = T at *;have h6 : 5 <= T.size := by rw [V.out]; omega
    have h7 : T.size <= 5 := by rw [V.out]; omega
    have q : (T.extract 1 T.size).size <= 4 := by rw [ByteArray.size_extract]; omega
    have H := q;rw [ByteArray.size_extract] at H;have x : Hid (S ++ T.extract 1 T.size = BS (decDigits (lval B4 ((lm B4 n).drop i)))) := by
     unfold Hid;have Q : i + 1 < (lm B4 n).length := by have := D.out; omega
     have I := y.out;rw [D.out] at I;rw [gd0 Y (ldp Q), I, J.out];apply bet;rw [Blt, ba0, Blt, extract_to_end, Blt];rfl
    have G := zbt X hb2;go_wp2_with fail;go_roundw
    case rel => exact ⟨i, _, _, rfl, by unfold Hid; omega, by omega, by omega, Y, rfl, x, G⟩
    case measure => simp [RowKit.intOf]
def sgn (m : Bool) (n : Nat) : Int := if m then -(n : Int) else n
theorem mg0 (w : World) (m : Bool) (v : Value) (l : List Nat) (L : ∀ z ∈ l, z < B4) (h : Rd .i64 w v l) (X : l.length <= 3000000) (M : Good w) :
 Calls Tryz.prog 163 #[.bool m, v] w (Ret (fun r _ => r = .string (IS (sgn m (lval B4 l)))) w) := by
 have V := dZe B4 ta0 l L;obtain ⟨n, R⟩ : ∃ n, lval B4 l = n := ⟨_, rfl⟩;rw [R] at V ⊢;have S : (lm B4 n).length <= 3000000 := by
  refine Nat.le_trans (la0 B4 n l.length ta0 ?_) X;rw [<- R]; exact llt B4 l L
 obtain ⟨p, c, rfl, x, G, C⟩ := h.open;have E : c <= 9223372036854775807 := G;have K := Lib.hid V;have J := Lib.hid h;clear h V R C;go_enter Tryz.func163, Tryz.ntmps163;go_wp2_with fail;refine (c4a _ _ _ J.out).mono ?_;rintro e q ⟨s, rfl, Y, rfl⟩;rw [K.out] at Y;obtain ⟨t, A, rfl, H, D, O⟩ := Y.open;have N := Lib.hid Y;clear Y O;rcases Nat.eq_zero_or_pos n with rfl | Q
 ·rw [lzo] at *
  go_wp2_with (go_at_call 192; refine (gc0 _ _ 0 (by rw [lzo]; exact N.out) (by rw [lzo]; simp) M).mono ?_; rintro e B ⟨_, rfl, rfl, Z⟩);all_goals
   go_ret;exact ⟨_, rfl, congrArg Value.string (by rw [show sgn m 0 = ((0 : Nat) : Int) by cases m <;> rfl]; unfold IS; rw [ib0]; rfl), Z⟩
 ·have U : 0 < (lm B4 n).length := List.length_pos_iff.2 (lnn B4 n ta0 Q)
  have I : Hid ((⟨#[45]⟩ : ByteArray) ++ BS (decDigits n) = IS (-(n : Int))) := by
   unfold Hid;apply bet;rw [ba0, Blt, Ilt, ia0 (by omega)];simp
  have y : (BS (decDigits n)).size <= 12000000 := by
   have := dld (n := n) (j := 0) U;rw [List.drop_zero, llm B4 n ta0] at this;rw [Bse]; omega
  cases m;all_goals
   go_wp2_with (go_at_call 192; refine (gc0 _ _ n N.out S M).mono ?_; rintro e B ⟨_, rfl, rfl, Z⟩);go_ret;first
    | exact ⟨_, rfl, congrArg Value.string I.out, Z⟩
    | exact ⟨_, rfl, congrArg Value.string (show BS (decDigits n) = IS (sgn false n) from by unfold IS; rw [show sgn false n = ((n : Nat) : Int) from rfl, ib0]; rfl), Z⟩
theorem ph0 (w : World) (va vb : Value) (a b : Nat) (ha : Rd .i64 w va (lm B4 a)) (hb : Rd .i64 w vb (lm B4 b)) (hn : 0 < b)
 (zH : (lm B4 a).length <= 900000) (zI : (lm B4 b).length <= 900000) :
 Calls Tryz.prog 160 #[va, vb] w (Ret (fun v w' => ∃ vq vr, v = .tuple #[vq, vr] /\ Rd .i64 w' vq (lm B4 (a / b)) /\ Rd .i64 w' vr (lm B4 (a % b))) w) := by
 obtain ⟨i0, L, z7, z8, z9⟩ := info_parts Tryz.info_i64;obtain ⟨p, c, rfl, hc, hm, hr⟩ := ha.open;have HX := Lib.hid (lm_lt B4 a ta0);have hL := Lib.hid (llm B4 a ta0);obtain ⟨q, d, rfl, hd, zo, hs⟩ := hb.open;have HB := Lib.hid hb;have HA := Lib.hid ha;clear ha hb hs;have h4 : ∀ x : World, Rd .i64 x (.slice none 0 0) (lm B4 0) := fun x => by rw [lzo]; exact RdC.nil0 _ _
 have f := Lib.hid h4;clear h4;have zL : c <= 9223372036854775807 := hm;have zS : d <= 9223372036854775807 := zo;go_enter Tryz.func160, Tryz.ntmps160;go_wp2_with (first | (at_make; refine wpList_make_full _ rfl _ _ 66 rfl w.heap.size 3 i0 (.int .i64 0) 1 Tryz.underlying66 L z7 z8 _ _ _ _ (lm B4 a).length rfl rfl (by omega) (by omega) (by rw [z9]; omega) (by unfold maxLen; omega) (Nat.le_refl _) ?_; intro w1 h6 hY));have Y : Arr .i64 w1 w.heap.size 3 (List.replicate (lm B4 a).length 0) := Arr.of_full rfl h6;have hN : Below w.heap.size w w1 := (Below.refl _ _).grown hY (Nat.le_refl _) (fun k hk => by cases hk);have I : Hid (QuoAt B4 (lm B4 a) b (lm B4 a).length (List.replicate (lm B4 a).length 0)) := QuoAt.start (by decide) _ _;clear hY h6;have H : w.heap.size + 1 <= w1.heap.size := Y.lt;go_loopw [7, 8] (fun t7 t8 wr => ∃ (i : Nat) (h : Int) (s : List Nat) (r : Nat), i <= (lm B4 a).length /\ t8 = .int .i64 h /\ Hid (h = (i : Int) - 1) /\ -1 <= h /\ h < 1000000 /\ Hid (QuoAt B4 (lm B4 a) b i s) /\ Hid (r = lval B4 ((lm B4 a).drop i) % b)
  /\ Rd .i64 wr t7 (lm B4 r) /\ FreshV (w.heap.size + 1) t7 /\ Arr .i64 wr w.heap.size 3 s /\ Below w.heap.size w wr /\ w.heap.size + 1 <= wr.heap.size) (fun _ t8 _ => (RowKit.intOf t8 + 1).toNat)
 case atStart =>
  refine ⟨(lm B4 a).length, _, _, 0, Nat.le_refl _, rfl, rfl, by omega, by omega, I, ?_, f.out _, (by intro a l c e; cases e), Y, hN, H⟩;unfold Hid; rw [List.drop_eq_nil_of_le (Nat.le_refl _)]; simp [lval]
 case round =>
  clear Y hN H I;obtain ⟨i, h, s, r, zF, rfl, HI, zm, zn, HQ, HR, hv, zl, Y, t, H⟩ := hrel;have hw : r < b := by rw [HR.out]; exact Nat.mod_lt _ hn
  have zU : (lm B4 r).length <= (lm B4 b).length := la0 B4 r _ ta0 (Nat.lt_trans hw (lll B4 b ta0));have z3 : s.length = (lm B4 a).length := HQ.out.1;have he := Lib.hid z3;obtain ⟨p7, c7, rfl, zB, zO, J⟩ := hv.open;have hH := Lib.hid hv;clear hv z3;rcases (by omega : h < 0 \/ 0 <= h) with zy | zD
  ·have hF : Hid (dropZ s = lm B4 (a / b) /\ r = a % b) := by
    have h0 : i = 0 := by have := HI.out; omega
    have o := HQ.out;have E := HR.out;rw [h0] at o E;refine ⟨?_, ?_⟩
    ·rw [QuoAt.done ta0 o, hL.out]
    ·rw [E, List.drop_zero, hL.out]
   have hy := Y.rd (by unfold maxLen; rw [he.out]; omega);rw [he.out] at hy;have zb := Lib.hid hy;clear hy J;go_wp2_with fail;refine (c4a _ _ _ zb.out).mono ?_;rintro e w3 ⟨v3, rfl, O, rfl⟩;rw [hF.out.1] at O;obtain ⟨p3, c3, rfl, zA, zN, zs⟩ := O.open;clear zs;go_wp2_with fail;refine bodyPost_ret (v := .tuple #[.slice p3 (lm B4 (a / b)).length c3, .slice p7 (lm B4 r).length c7]) (by simp [results, Tryz.results160, go_sem]) rfl ?_;exact ⟨_, rfl, ⟨_, _, rfl, O, by rw [<- hF.out.2]; exact hH.out⟩, t⟩
  ·obtain ⟨k, rfl⟩ : ∃ k : Nat, h = (k : Int) := ⟨h.toNat, by omega⟩
   have hq : Hid (i = k + 1) := by have := HI.out; unfold Hid; omega
   have B : k < (lm B4 a).length := by have := hq.out; omega
   have zp : lm B4 a ≠ [] := List.ne_nil_of_length_pos (by omega);obtain ⟨bX, oX, rfl, hP, hQ⟩ := hr zp;have z5 := zcq t hP (hQ k B);have z6 : (lm B4 a)[k] < B4 := HX.out _ (List.getElem_mem B);obtain ⟨xz, hB⟩ := zex (((lm B4 a)[k] : Nat) : Int);rw [<- hB] at z5;have hM := Lib.hid hB;have zG : k <= 1000000 := by omega
   have zT : (lm B4 r).length <= 1000000 := by omega
   obtain ⟨R, hR⟩ := zex (r * B4 + (lm B4 a)[k]);have hS : Hid (dropZ ((lm B4 a)[k] :: lm B4 r) = lm B4 R) := by unfold Hid; rw [hR]; exact lcd ta0 z6
   have hg : R < b * 10000 := by
    rw [hR];have o : (r + 1) * B4 <= b * B4 := Nat.mul_le_mul_right _ hw;rw [Nat.add_mul] at o;unfold B4 at *;omega
   have zz := Lib.hid hR;have zg : (lm B4 R).length <= 1000000 := by
    refine Nat.le_trans (la0 B4 R ((lm B4 b).length + 1) ta0 ?_) (by omega);refine Nat.lt_of_lt_of_le hg ?_;rw [Nat.pow_succ];exact Nat.mul_le_mul_right _ (Nat.le_of_lt (lll B4 b ta0))
   have ze : Hid (∀ d, d = R / b -> QuoAt B4 (lm B4 a) b k (s.set k d)) := by
    intro d hd;have o := HQ.out;have E := HR.out;rw [hq.out] at o E;exact o.step hn HX.out B E (by rw [hd, hR])
   have zf : Hid (R % b = lval B4 ((lm B4 a).drop k) % b) := by
    unfold Hid;have E := HR.out;rw [hq.out] at E;rw [hR]; exact rg0 B E
   have za := Lib.hid hg;clear hB hQ hr hR z6 hw zm zn hg;go_upto_region 6 with fail;go_cut [7] (fun s7 wx => Rd .i64 wx s7 (lm B4 R) /\ FreshV (w.heap.size + 1) s7 /\ Arr .i64 wx w.heap.size 3 s /\ Below w.heap.size w wx /\ w.heap.size + 1 <= wx.heap.size)
   case first =>
    rcases Nat.eq_zero_or_pos r with zr | hz
    ·subst zr
     rw [lzo] at *;have h5 : Rd .i64 (wr.alloc (.cells #[.int .i64 xz] 3)) (.slice (some ⟨wr.heap.size, 0, none⟩) 1 1) [(lm B4 a)[k]] := by
      refine ⟨_, _, rfl, Nat.le_refl _, by unfold maxLen; omega, rfl, fun _ => ⟨wr.heap.size, 0, rfl, fun i x hx => ?_⟩⟩;cases i with
      | zero => simp at hx; rw [World.cell?_alloc_at _ _ _ _ rfl, <- hx, <- hM.out]; rfl
      | succ i => simp at hx
     have hE := Lib.hid h5;have hV : FreshV (w.heap.size + 1) (.slice (some ⟨wr.heap.size, 0, none⟩) 1 1) := by intro a' l' c' e; cases e; exact H
     clear h5;cases p7;all_goals
      go_wp2_with fail;refine (c4f _ _ _ hE.out).mono ?_;rintro e w3 ⟨v3, rfl, ⟨O, hp⟩, rfl⟩;rw [hS.out] at O;go_wp2_with fail;go_meet;exact ⟨O, hp _ hV, (ho0 _ _ _ Y.lt).trans Y, t.alloc (by omega) _, by simp; omega⟩
    ·have z2 : lm B4 r ≠ [] := lnn B4 r ta0 hz
     obtain ⟨b5, o5, rfl, zv, h3⟩ := J z2;have h8 : (wr.alloc (.cells #[.int .i64 xz] 3)).ownsRow wr.heap.size 3 1 (.slice (some ⟨wr.heap.size, 0, none⟩) 1 1) 1 [.int .i64 xz] :=
      ⟨rfl, .inr ⟨wr.heap.size, 1, _, rfl, Nat.le_refl _, heap_alloc_new _ _, Nat.le_refl _, by unfold maxLen; omega, rfl, rfl⟩⟩
     have z : ∀ j u, ((lm B4 r).map fun x : Nat => Value.int .i64 (x : Int))[j]? = some u -> (wr.alloc (.cells #[.int .i64 xz] 3)).cell? ((⟨b5, o5, none⟩ : Addr).add j) = some u := by
      intro j u hu;have hj : j < (lm B4 r).length := by have := (List.getElem?_eq_some_iff.1 hu).1; simpa using this
      rw [List.getElem?_map, List.getElem?_eq_getElem hj] at hu;cases hu;rw [aad];show (wr.alloc (.cells #[.int .i64 xz] 3)).cell? ⟨b5, o5 + j, none⟩ = some (.int .i64 (((lm B4 r)[j] : Nat) : Int));exact cal _ (h3 j hj)
     have A : ∀ u ∈ (lm B4 r).map fun x : Nat => Value.int .i64 (x : Int), u.oneCell' = true := by
      intro u hu;obtain ⟨y, _, rfl⟩ := List.mem_map.1 hu;rfl
     have G := Lib.hid z;clear z h3 J;go_wp2_with (first | (at_builtin; refine wpList_append_own _ rfl _ _ 66 rfl wr.heap.size 3 i0 (.int .i64 0) 1 8 Tryz.underlying66 L z7 z8 z9 rfl (by decide) _ _ _ rfl h8 ⟨b5, o5, none⟩ (lm B4 r).length c7 ((lm B4 r).map fun x : Nat => Value.int .i64 (x : Int)) rfl (by simp) G.out A (by unfold maxLen; omega) (by omega) (by simp) ?_));intro v' g N M _;have h7 : Rd .i64 g v' ((lm B4 a)[k] :: lm B4 r) := by
      refine Rd.of_owns (base := wr.heap.size) (e := 3) rfl ?_;rw [List.length_cons, Nat.add_comm, List.map_cons, <- hM.out];exact N
     have hW : FreshV (w.heap.size + 1) v' := fun a' l' c' e => Nat.le_trans H (FreshV.of_owns N a' l' c' e);have zd : Below w.heap.size w g := (t.alloc (by omega) _).grown M (by simp; omega) (fun k hk => by have e : wr.heap.size = k := (Option.some.inj hk); omega);have S : Arr .i64 g w.heap.size 3 s := (M.block w.heap.size (by simp; omega) (by intro e; have e : w.heap.size = wr.heap.size := (Option.some.inj e); omega)).trans ((ho0 _ _ _ Y.lt).trans Y);have z4 : w.heap.size + 1 <= g.heap.size := by have := M.size; simp at this; omega
     have hJ := Lib.hid h7;clear N M h7 h8 G A;go_wp2_with fail;refine (c4f _ _ _ hJ.out).mono ?_;rintro e w3 ⟨v3, rfl, ⟨O, hp⟩, rfl⟩;rw [hS.out] at O;go_wp2_with fail;go_meet;exact ⟨O, hp _ hW, S, zd, z4⟩
   case rest =>
    obtain ⟨hA, hX, hh, K, zx⟩ := hcut;clear J hH Y t H zl z5;obtain ⟨p8, c8, rfl, zC, zP, zt⟩ := hA.open;have zc := Lib.hid hA;clear hA zt;go_wp2_with fail;obtain ⟨wo, zu⟩ := zex (wr : World);subst zu;go_loopw [9, 10] (fun t9 t10 wr => ∃ (V L : Nat), t9 = .int .i64 V /\ t10 = .int .i64 L /\ V <= L /\ L <= 9999 /\ Hid (V * b <= R /\ R < (L + 1) * b) /\ Below wc.heap.size wc wr) (fun t9 t10 _ => (RowKit.intOf t10).toNat - (RowKit.intOf t9).toNat)
    case atStart => exact ⟨0, 9999, rfl, rfl, by omega, by omega, ⟨by omega, by have := za.out; omega⟩, Below.refl _ _⟩
    case round =>
     obtain ⟨V, L, rfl, rfl, zJ, zE, h9, X⟩ := hrel;have hC : Hid (Rd .i64 wr (.slice q (lm B4 b).length d) (lm B4 b)) := RdC.below HB.out (K.trans (X.mono K.size));have hf : Hid (Rd .i64 wr (.slice p8 (lm B4 R).length c8) (lm B4 R)) := RdC.below zc.out X;have hO : (lm B4 b).length <= 1000000 := by omega
     rcases Nat.lt_or_ge V L with zK | zw
     ·obtain ⟨Z, z1⟩ := zex ((V + L + 1) / 2 : Nat)
      have zM : V < Z /\ Z <= L := by omega
      have HM : Hid (((V : Int) + L + 1) / 2 = (Z : Int)) := by unfold Hid; omega
      have ht : Hid (((0 : Nat) : Int) + (Z : Int) * (b : Int) = ((Z * b : Nat) : Int)) := by unfold Hid; push_cast; omega
      have zQ : (lm B4 (Z * b)).length <= 1000000 := by
           refine Nat.le_trans (la0 B4 (Z * b) ((lm B4 b).length + 1) ta0 ?_) (by omega);rw [Nat.pow_succ, Nat.mul_comm];exact Nat.mul_lt_mul_of_lt_of_le (lll B4 b ta0) (by unfold B4; omega) (by decide)
      clear z1;rcases Nat.lt_or_ge R (Z * b) with n | n
      case' inl =>
           have hT : Hid (decide (R < Z * b) = true) := decide_eq_true n
      case' inr =>
           have hT : Hid (decide (R < Z * b) = false) := decide_eq_false (by omega)
      all_goals
           have hG := Lib.hid n;clear n;go_wp2_with fail;rw [HM.out];refine (j4a _ _ _ 0 b (Z * b) (Z : Int) (f.out _) hC.out (by omega) ht.out (by rw [lzo]; simp) hO).mono ?_;rintro e g ⟨v2, rfl, ⟨m, _⟩, Q⟩;go_wp2_with fail;refine (lf0 _ _ _ R (Z * b) (RdC.below hf.out Q) m).mono ?_;rintro e w3 ⟨_, rfl, rfl, j3, rfl⟩;rw [hT.out];have D : Below wc.heap.size wc (g.drewN j3) := X.trans ((Q.trans ((bdN g j3).mono Q.size)).mono X.size);clear Q m;go_wp2_with fail;go_roundw
           case rel =>
            first
             | exact ⟨V, Z - 1, rfl, by congr 1; omega, by omega, by omega, ⟨h9.out.1, by rw [show Z - 1 + 1 = Z by omega]; exact hG.out⟩, D⟩
             | exact ⟨Z, L, rfl, rfl, by omega, by omega, ⟨hG.out, h9.out.2⟩, D⟩
           case measure => simp [RowKit.intOf]; omega
     ·have z0 : Hid (V = R / b) := by
           have o : V = L := by omega
           have E := h9.out;unfold Hid;rw [<- o] at E;exact ((Nat.div_eq_iff hn).2 ⟨by omega, by rw [Nat.add_mul] at E; omega⟩).symm
      have ht : Hid ((R : Int) + (-(V : Int)) * (b : Int) = ((R % b : Nat) : Int)) := by
           unfold Hid;have := Nat.div_add_mod R b;rw [<- z0.out] at this;generalize R % b = y at *;rw [<- this, Nat.mul_comm];push_cast;rw [Int.neg_mul]; omega
      have U : Arr .i64 wr w.heap.size 3 s := Arr.below hh X;have zq : k < s.length := by rw [he.out]; exact B
      have zj := U.cell k zq;have zi := U.frozen k;have S := U.set k V (u := .int .i64 V) rfl;have ho : Below w.heap.size w (wr.setCell ⟨w.heap.size, k, none⟩ (.int .i64 V)) := (K.trans (X.mono K.size)).setCell (Nat.le_refl _) _;have hK : Hid (Rd .i64 (wr.setCell ⟨w.heap.size, k, none⟩ (.int .i64 V)) (.slice p8 (lm B4 R).length c8) (lm B4 R)) := RdC.set_fresh hf.out hX _;have hD : Hid (Rd .i64 (wr.setCell ⟨w.heap.size, k, none⟩ (.int .i64 V)) (.slice q (lm B4 b).length d) (lm B4 b)) := RdC.below HB.out ho;have C : w.heap.size + 1 <= (wr.setCell ⟨w.heap.size, k, none⟩ (.int .i64 V)).heap.size := by have := X.size; simp [World.setCell]; omega
      have f1 : (0 : Int) <= (k : Int) := by omega
      have f2 : (k : Int) < ((lm B4 a).length : Int) := by omega
      clear hf hC U;go_wp2_with fail;refine (j4a _ _ _ R b (R % b) (-(V : Int)) hK.out hD.out (by omega) ht.out zg hO).mono ?_;rintro e g ⟨v2, rfl, ⟨m, hU⟩, Q⟩;have hl := Arr.below S Q;have zh := zbt ho Q;have zk : FreshV (w.heap.size + 1) v2 := fun a' l' c' e => Nat.le_trans C (hU a' l' c' e);have hZ : w.heap.size + 1 <= g.heap.size := Nat.le_trans C Q.size;clear Q ho S hK hD C zj zi hU;go_wp2_with fail;go_roundw
      case rel => exact ⟨k, _, s.set k V, R % b, by omega, rfl, rfl, by omega, by omega, ze.out V z0.out, zf, m, zk, hl, zh, hZ⟩
      case measure => simp [RowKit.intOf]
end Go.Proofs.YtmcbeajdloaliaaGreatDoor
