import Derived.Test.YtmcbeajdloaliaaGreatDoorVS32
import Derived.Test.YtmcbeajdloaliaaGreatDoorVRA
import Derived.OpenShut
/- The argument Plan of klippelaw28. -/
set_option maxRecDepth 100000
namespace Go.Proofs.YtmcbeajdloaliaaGreatDoor
open Go.ChangeShapes Go.WideShapes Go.ChangeAt Go.RowKit Go.Lib
section
variable {H : Type} {enc : TypeId × Value -> H} {w : World} {base : Nat} {sp : Nat -> Bool} {held : Bool}
theorem tsp {n : Nat} {cs : List Value} {x : DataW H × List MemPlace} (h : DataW.trod enc Tryz.prog w base sp held n 28 cs = some x) :
 ∃ (x0 x1 x2 U S R : Int) (Q : Bool), cs = [.int .i8 x0, .int .i8 x1, .int .i8 x2, .int .i8 U, .int .i8 S, .int .i8 R, .bool Q] /\ ∀ x ∈ [x0, x1, x2, U, S, R], -128 <= x /\ x <= 127 := by
 obtain ⟨M, m, rfl, rfl, J, hx, K⟩ := DataW.trod_struct Tryz.underlying28 h;have y : (Tryz.prog).cellsOf 28 = 7 := by kernel_rfl
 have z : (Tryz.prog).cellsOf 26 = 6 := by kernel_rfl
 have A : (Tryz.prog).cellsOf 22 = 1 := by kernel_rfl
 have v : (Tryz.prog).cellsOf 4 = 1 := by kernel_rfl
 obtain ⟨c0, c1, c2, Z, Y, X, V, rfl⟩ : ∃ c0 c1 c2 Z Y X V, cs = [c0, c1, c2, Z, Y, X, V] := by
  rw [y] at J
  match cs, J with
  | [c0, c1, c2, Z, Y, X, V], _ => exact ⟨c0, c1, c2, Z, Y, X, V, rfl⟩
 have q : M.length = 2 := hx;have O : DataW.trod enc Tryz.prog w base sp held m 26 (([c0, c1, c2, Z, Y, X, V].drop 0).take ((Tryz.prog).cellsOf 26)) = M[0]? := K 0 _ rfl;have N : DataW.trod enc Tryz.prog w base sp held m 4 (([c0, c1, c2, Z, Y, X, V].drop 6).take ((Tryz.prog).cellsOf 4)) = M[1]? := K 1 _ rfl;rw [List.getElem?_eq_getElem (by omega)] at O N;rw [z] at O;rw [v] at N;obtain ⟨f, g, rfl, -, -, hy, s⟩ := DataW.trod_array Tryz.underlying26 O;obtain ⟨Q, t, -⟩ := DataW.trod_bool boolT N;have I : ∀ i, i < 6 -> ∃ n, (([c0, c1, c2, Z, Y, X].drop (i * 1)).take 1) = [Value.int .i8 n] /\ -128 <= n /\ n <= 127 := fun i hi => by
  have L := s i hi;rw [A, List.getElem?_eq_getElem (by omega)] at L;obtain ⟨n, r, -, hw⟩ := DataW.trod_int i8T L;exact ⟨n, r, bounds_i8 hw⟩
 obtain ⟨x0, a0, p⟩ := I 0 (by omega);obtain ⟨x1, G, b1⟩ := I 1 (by omega);obtain ⟨x2, E, o⟩ := I 2 (by omega);obtain ⟨U, D, l⟩ := I 3 (by omega);obtain ⟨S, C, k⟩ := I 4 (by omega);obtain ⟨R, B, j⟩ := I 5 (by omega);refine ⟨x0, x1, x2, U, S, R, Q, ?_, ?_⟩
 ·cases a0; cases G; cases E; cases D; cases C; cases B; cases t; rfl
 ·intro x hx
  simp only [List.mem_cons, List.not_mem_nil, or_false] at hx;rcases hx with rfl | rfl | rfl | rfl | rfl | rfl <;> assumption
theorem cgt {a : Addr} {n : Nat} {cs : List Value} (h : w.cells? base a n = some cs) : cs.length = n /\ ∀ (i : Nat) (x : Value), cs[i]? = some x -> w.cell? (a.add i) = some x := by
 obtain ⟨_, Y, Z⟩ := World.cells?_some h;exact ⟨Y, fun i x hx => (Z i (by have := (List.getElem?_eq_some_iff.1 hx).1; omega)).trans hx⟩
theorem tss {v : Value} {n : Nat} {x : DataW H × List MemPlace} (h : DataW.trod enc Tryz.prog w base sp held n 29 [v] = some x) : ∃ S : List StepQ, RdSt w v S := by
 have p : (Tryz.prog).cellsOf 28 = 7 := by kernel_rfl
 rcases DataW.trod_slice Tryz.underlying29 h with ⟨z, -⟩ | ⟨a, len, cap, I, rest, m, rfl, z, -, -, o, r, l, G, -, -⟩
 ·cases z
  exact ⟨[], ⟨none, 0, rfl, Nat.le_refl _, by decide, rfl, fun h => absurd rfl h⟩, fun h hh => by cases hh⟩
 ·cases z
  rw [p] at G;have E : ∀ i, i < len -> ∃ (x0 x1 x2 R Q O : Int) (N : Bool), (∀ x ∈ [x0, x1, x2, R, Q, O], -128 <= x /\ x <= 127) /\ ∀ (j : Nat) (u : Value), [Value.int .i8 x0, .int .i8 x1, .int .i8 x2, .int .i8 R, .int .i8 Q, .int .i8 O, .bool N][j]? = some u -> w.cell? ((a.add (i * 7)).add j) = some u := fun i X => by
   have q := G i X;rw [List.getElem?_eq_getElem (by omega)] at q;obtain ⟨cs, C, c⟩ := Option.bind_eq_some_iff.1 q;obtain ⟨x0, x1, x2, R, Q, O, N, rfl, D⟩ := tsp c;exact ⟨x0, x1, x2, R, Q, O, N, D, (cgt C).2⟩
  obtain ⟨S, J, Y⟩ : ∃ S : List StepQ, S.length = len /\ ∀ (i : Nat) (s : StepQ), S[i]? = some s -> s.1.length = 6 /\ (∀ x ∈ s.1, -128 <= x /\ x <= 127) /\ ∀ (j : Nat) (u : Value), (s.1.map (fun x => Value.int .i8 x) ++ [Value.bool s.2])[j]? = some u -> w.cell? ((a.add (i * 7)).add j) = some u := by
   clear G l r o h
   induction len with
   | zero => exact ⟨[], rfl, fun i s Z => by cases Z⟩
   | succ k ih =>
     obtain ⟨S, J, Y⟩ := ih (fun i X => E i (by omega));obtain ⟨x0, x1, x2, R, Q, O, N, D, C⟩ := E k (by omega);refine ⟨S ++ [([x0, x1, x2, R, Q, O], N)], by simp [J], fun i s Z => ?_⟩;by_cases X : i < S.length
     ·rw [List.getElem?_append_left X] at Z
      exact Y i s Z
     ·have A : i = k := by have := (List.getElem?_eq_some_iff.1 Z).1; simp at this; omega
      subst A;rw [List.getElem?_append_right (by omega), J, Nat.sub_self] at Z;cases Z;exact ⟨rfl, D, C⟩
  refine ⟨S, ⟨some a, cap, by rw [J], by omega, r, ?_, fun hne => ?_⟩, fun s Z => ?_⟩
  ·have : ∀ L : List StepQ, (∀ s ∈ L, s.1.length = 6) -> (cSt L).length = L.length * 7 := fun L => by
    induction L with
    | nil => intro _; rfl
    | cons s L ih => intro Z; unfold cSt at ih ⊢; rw [List.flatMap_cons, List.length_append, ih (fun x hx => Z x (by simp [hx]))]; have := Z s (by simp); simp [this]; omega
   exact this S fun s Z => by obtain ⟨i, X⟩ := List.mem_iff_getElem?.1 Z; exact (Y i s X).1
  ·have V : ∀ s ∈ S, s.1.length = 6 := fun s Z => by obtain ⟨i, X⟩ := List.mem_iff_getElem?.1 Z; exact (Y i s X).1
   have f : 0 < S.length := by
    rcases S with _ | ⟨s, S⟩
    ·exact absurd rfl hne
    ·simp
   obtain ⟨b, off, K⟩ := a;have t := Y 0 S[0] (List.getElem?_eq_getElem f);obtain ⟨x0, x1, x2, R, Q, O, hx⟩ := lsx t.1;have B := t.2.2 0 (.int .i8 x0) (by rw [hx]; rfl);have U : K = none := by simpa [Addr.add] using World.cell?_spot B
   subst U;refine ⟨b, off, rfl, fun i x hix => ?_⟩;have M : (cSt S).length = S.length * 7 := by
    have : ∀ L : List StepQ, (∀ s ∈ L, s.1.length = 6) -> (cSt L).length = L.length * 7 := fun L => by
     induction L with
     | nil => intro _; rfl
     | cons s L ih => intro Z; unfold cSt at ih ⊢; rw [List.flatMap_cons, List.length_append, ih (fun x hx => Z x (by simp [hx]))]; have := Z s (by simp); simp [this]; omega
    exact this S V
   have g : i < S.length * 7 := by rw [<- M]; exact (List.getElem?_eq_some_iff.1 hix).1
   have hq : i / 7 < S.length := by omega
   have d : i % 7 < 7 := Nat.mod_lt _ (by omega);have e := cSg S V (i / 7) (i % 7) hq d;have y : i / 7 * 7 + i % 7 = i := by omega
   rw [y, hix] at e;have := (Y (i / 7) S[i / 7] (List.getElem?_eq_getElem hq)).2.2 (i % 7) x e.symm;rw [Go.Lib.add_plain, Go.Lib.add_plain, Nat.add_assoc, y] at this;exact this
  ·obtain ⟨i, X⟩ := List.mem_iff_getElem?.1 Z
   exact ⟨(Y i s X).1, (Y i s X).2.1⟩
theorem p2t : (Tryz.prog).cellTypes (Tryz.prog).depth 31 = some [5, 22, 22, 4, 22, 22, 22, 22, 22, 22, 4, 29] := by kernel_rfl
theorem p2s : ∃ fs, (Tryz.prog).underlying 31 = some (.struct fs) := ⟨_, Tryz.underlying31⟩
theorem p2c : (Tryz.prog).cellsOf 31 = 12 := by kernel_rfl
theorem op2 {r : Reach} {b : Nat} {v : Value} {d : DataW H} {ps : List MemPlace} (h : Value.okWide Tryz.prog w r b 31 v) (C : DataW.Trod enc Tryz.prog w base sp held 31 v d ps) :
 ∃ (X V U : Int) (Z : Bool) (a0 Q O N M L : Int) (K : Bool) (R : Value) (S : List StepQ),
  v = .agg #[.int .u8 X, .int .i8 V, .int .i8 U, .bool Z, .int .i8 a0, .int .i8 Q, .int .i8 O, .int .i8 N, .int .i8 M, .int .i8 L, .bool K, R] /\
  (0 <= X /\ X <= 255) /\ (-128 <= V /\ V <= 127) /\ (-128 <= U /\ U <= 127) /\ (∀ x ∈ [a0, Q, O, N, M, L], -128 <= x /\ x <= 127) /\ RdSt w R S := by
 obtain ⟨fs, A⟩ := p2s;obtain ⟨cs, rfl, y, J⟩ := acs A p2t p2c h;have I : ∀ i, [5, 22, 22, 4, 22, 22, 22, 22, 22, 22, 4, 29][i]? = some 22 -> ∃ n, cs[i]? = some (Value.int .i8 n) /\ -128 <= n /\ n <= 127 := fun i hi => by
  obtain ⟨x, hx, Y⟩ := J i _ hi;obtain ⟨n, rfl, hn⟩ := cit i8T Y;exact ⟨n, hx, hi8 hn⟩
 have B : ∀ i, [5, 22, 22, 4, 22, 22, 22, 22, 22, 22, 4, 29][i]? = some 4 -> ∃ n, cs[i]? = some (Value.bool n) := fun i hi => by
  obtain ⟨x, hx, Y⟩ := J i _ hi;obtain ⟨n, rfl⟩ := cbl boolT Y;exact ⟨n, hx⟩
 obtain ⟨x, hx, Y⟩ := J 0 _ rfl;obtain ⟨X, rfl, z⟩ := cit u8T Y;obtain ⟨V, q, l1⟩ := I 1 rfl;obtain ⟨U, p, l2⟩ := I 2 rfl;obtain ⟨Z, o⟩ := B 3 rfl;obtain ⟨a0, l, l4⟩ := I 4 rfl;obtain ⟨Q, k, l5⟩ := I 5 rfl;obtain ⟨O, g, l6⟩ := I 6 rfl;obtain ⟨N, f, l7⟩ := I 7 rfl;obtain ⟨M, e, l8⟩ := I 8 rfl;obtain ⟨L, c, l9⟩ := I 9 rfl;obtain ⟨K, G⟩ := B 10 rfl;obtain ⟨R, E, -⟩ := J 11 _ rfl;have ev : cs = #[.int .u8 X, .int .i8 V, .int .i8 U, .bool Z, .int .i8 a0, .int .i8 Q, .int .i8 O, .int .i8 N, .int .i8 M, .int .i8 L, .bool K, R] := by
  apply Array.ext_getElem?;intro i
  match i with
  | 0 => exact hx
  | 1 => exact q
  | 2 => exact p
  | 3 => exact o
  | 4 => exact l
  | 5 => exact k
  | 6 => exact g
  | 7 => exact f
  | 8 => exact e
  | 9 => exact c
  | 10 => exact G
  | 11 => exact E
  | j + 12 => rw [Array.getElem?_eq_none (by have : cs.size = 12 := y; omega), Array.getElem?_eq_none (by simp)]
 subst ev;obtain ⟨fuel, C⟩ := C;obtain ⟨s, m, rfl, -, -, t, hf⟩ := DataW.trod_struct Tryz.underlying31 C;have h0 : s.length = 3 := t;have D : DataW.trod enc Tryz.prog w base sp held m 29 (((#[Value.int .u8 X, .int .i8 V, .int .i8 U, .bool Z, .int .i8 a0, .int .i8 Q, .int .i8 O, .int .i8 N, .int .i8 M, .int .i8 L, .bool K, R] : Array Value).toList.drop 11).take ((Tryz.prog).cellsOf 29)) = s[2]? := hf 2 _ rfl;rw [List.getElem?_eq_getElem (by omega)] at D;have a : (Tryz.prog).cellsOf 29 = 1 := by kernel_rfl
 rw [a] at D;obtain ⟨S, hS⟩ := tss (v := R) D;refine ⟨X, V, U, Z, a0, Q, O, N, M, L, K, R, S, rfl, hu8 z, l1, l2, ?_, hS⟩;intro x hx;simp only [List.mem_cons, List.not_mem_nil, or_false] at hx;rcases hx with rfl | rfl | rfl | rfl | rfl | rfl <;> assumption
end
end Go.Proofs.YtmcbeajdloaliaaGreatDoor
