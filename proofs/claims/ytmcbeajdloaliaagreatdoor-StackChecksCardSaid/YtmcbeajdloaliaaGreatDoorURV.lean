import Derived.Test.YtmcbeajdloaliaaGreatDoorUS30
import Derived.Test.YtmcbeajdloaliaaGreatDoorURA
import Derived.OpenShut
/- The argument Plan of klippelaw28. A change of a deposit as an argument. -/
set_option maxRecDepth 100000
namespace Go.Proofs.YtmcbeajdloaliaaGreatDoor
open Go.ChangeShapes Go.WideShapes Go.ChangeAt Go.RowKit Go.Lib
section
variable {H : Type} {enc : TypeId × Value -> H} {w : World} {base : Nat} {sp : Nat -> Bool} {held : Bool}
theorem tsp {n : Nat} {cs : List Value} {x : DataW H × List MemPlace} (h : DataW.trod enc Tryz.prog w base sp held n 28 cs = some x) :
 ∃ (x0 x1 x2 U S R : Int) (Q : Bool), cs = [.int .i8 x0, .int .i8 x1, .int .i8 x2, .int .i8 U, .int .i8 S, .int .i8 R, .bool Q] /\ ∀ x ∈ [x0, x1, x2, U, S, R], -128 <= x /\ x <= 127 := by
 obtain ⟨xs, m, rfl, rfl, K, hx, L⟩ := DataW.trod_struct Tryz.underlying28 h;have z : (Tryz.prog).cellsOf 28 = 7 := by kernel_rfl
 have A : (Tryz.prog).cellsOf 26 = 6 := by kernel_rfl
 have B : (Tryz.prog).cellsOf 22 = 1 := by kernel_rfl
 have y : (Tryz.prog).cellsOf 4 = 1 := by kernel_rfl
 obtain ⟨c0, c1, c2, Z, Y, X, V, rfl⟩ : ∃ c0 c1 c2 Z Y X V, cs = [c0, c1, c2, Z, Y, X, V] := by
  rw [z] at K
  match cs, K with
  | [c0, c1, c2, Z, Y, X, V], _ => exact ⟨c0, c1, c2, Z, Y, X, V, rfl⟩
 have r : xs.length = 2 := hx;have O : DataW.trod enc Tryz.prog w base sp held m 26 (([c0, c1, c2, Z, Y, X, V].drop 0).take ((Tryz.prog).cellsOf 26)) = xs[0]? := L 0 _ rfl;have N : DataW.trod enc Tryz.prog w base sp held m 4 (([c0, c1, c2, Z, Y, X, V].drop 6).take ((Tryz.prog).cellsOf 4)) = xs[1]? := L 1 _ rfl;rw [List.getElem?_eq_getElem (by omega)] at O N;rw [A] at O;rw [y] at N;obtain ⟨g, j, rfl, -, -, hy, t⟩ := DataW.trod_array Tryz.underlying26 O;obtain ⟨Q, v, -⟩ := DataW.trod_bool boolT N;have I : ∀ i, i < 6 -> ∃ n, (([c0, c1, c2, Z, Y, X].drop (i * 1)).take 1) = [Value.int .i8 n] /\ -128 <= n /\ n <= 127 := fun i hi => by
  have M := t i hi;rw [B, List.getElem?_eq_getElem (by omega)] at M;obtain ⟨n, s, -, hw⟩ := DataW.trod_int i8T M;exact ⟨n, s, bounds_i8 hw⟩
 obtain ⟨x0, a0, q⟩ := I 0 (by omega);obtain ⟨x1, J, b1⟩ := I 1 (by omega);obtain ⟨x2, G, p⟩ := I 2 (by omega);obtain ⟨U, E, o⟩ := I 3 (by omega);obtain ⟨S, D, l⟩ := I 4 (by omega);obtain ⟨R, C, k⟩ := I 5 (by omega);refine ⟨x0, x1, x2, U, S, R, Q, ?_, ?_⟩
 ·cases a0; cases J; cases G; cases E; cases D; cases C; cases v; rfl
 ·intro x hx
  simp only [List.mem_cons, List.not_mem_nil, or_false] at hx;rcases hx with rfl | rfl | rfl | rfl | rfl | rfl <;> assumption
theorem cgt {a : Addr} {n : Nat} {cs : List Value} (h : w.cells? base a n = some cs) : cs.length = n /\ ∀ (i : Nat) (x : Value), cs[i]? = some x -> w.cell? (a.add i) = some x := by
 obtain ⟨_, Y, Z⟩ := World.cells?_some h;exact ⟨Y, fun i x hx => (Z i (by have := (List.getElem?_eq_some_iff.1 hx).1; omega)).trans hx⟩
theorem tss {v : Value} {n : Nat} {x : DataW H × List MemPlace} (h : DataW.trod enc Tryz.prog w base sp held n 29 [v] = some x) : ∃ S : List StepQ, RdSt w v S := by
 have p : (Tryz.prog).cellsOf 28 = 7 := by kernel_rfl
 rcases DataW.trod_slice Tryz.underlying29 h with ⟨z, -⟩ | ⟨a, len, cap, I, rest, m, rfl, z, -, -, o, r, l, G, -, -⟩
 ·cases z
  exact ⟨[], ⟨none, 0, rfl, Nat.le_refl _, by decide, rfl, fun h => absurd rfl h⟩, fun h hh => by cases hh⟩
 ·cases z
  rw [p] at G;have E : ∀ i, i < len -> ∃ (x0 x1 x2 R Q O : Int) (N : Bool), (∀ x ∈ [x0, x1, x2, R, Q, O], -128 <= x /\ x <= 127) /\ ∀ (j : Nat) (u : Value), [Value.int .i8 x0, .int .i8 x1, .int .i8 x2, .int .i8 R, .int .i8 Q, .int .i8 O, .bool N][j]? = some u -> w.cell? ((a.add (i * 7)).add j) = some u := fun i X => by
   have q := G i X;rw [List.getElem?_eq_getElem (by omega)] at q;obtain ⟨cs, C, c⟩ := Option.bind_eq_some_iff.1 q;obtain ⟨x0, x1, x2, R, Q, O, N, rfl, D⟩ := tsp c;exact ⟨x0, x1, x2, R, Q, O, N, D, (cgt C).2⟩
  obtain ⟨S, J, Y⟩ : ∃ S : List StepQ, S.length = len /\ ∀ (i : Nat) (s : StepQ), S[i]? = some s -> s.1.length = 6 /\ (∀ x ∈ s.1, -128 <= x /\ x <= 127) /\ ∀ (j : Nat) (u : Value), (s.1.map (fun x => Value.int .i8 x) ++ [Value.bool s.2])[j]? = some u -> w.cell? ((a.add (i * 7)).add j) = some u := by
   clear G l r o h
   induction len with
   | zero => exact ⟨[], rfl, fun i s Z => by cases Z⟩
   | succ k ih =>
     obtain ⟨S, J, Y⟩ := ih (fun i X => E i (by omega));obtain ⟨x0, x1, x2, R, Q, O, N, D, C⟩ := E k (by omega);refine ⟨S ++ [([x0, x1, x2, R, Q, O], N)], by simp [J], fun i s Z => ?_⟩;by_cases X : i < S.length
     ·rw [List.getElem?_append_left X] at Z
      exact Y i s Z
     ·have A : i = k := by have := (List.getElem?_eq_some_iff.1 Z).1; simp at this; omega
      subst A;rw [List.getElem?_append_right (by omega), J, Nat.sub_self] at Z;cases Z;exact ⟨rfl, D, C⟩
  refine ⟨S, ⟨some a, cap, by rw [J], by omega, r, ?_, fun hne => ?_⟩, fun s Z => ?_⟩
  ·have : ∀ L : List StepQ, (∀ s ∈ L, s.1.length = 6) -> (cSt L).length = L.length * 7 := fun L => by
    induction L with
    | nil => intro _; rfl
    | cons s L ih => intro Z; unfold cSt at ih ⊢; rw [List.flatMap_cons, List.length_append, ih (fun x hx => Z x (by simp [hx]))]; have := Z s (by simp); simp [this]; omega
   exact this S fun s Z => by obtain ⟨i, X⟩ := List.mem_iff_getElem?.1 Z; exact (Y i s X).1
  ·have V : ∀ s ∈ S, s.1.length = 6 := fun s Z => by obtain ⟨i, X⟩ := List.mem_iff_getElem?.1 Z; exact (Y i s X).1
   have f : 0 < S.length := by
    rcases S with _ | ⟨s, S⟩
    ·exact absurd rfl hne
    ·simp
   obtain ⟨b, off, K⟩ := a;have t := Y 0 S[0] (List.getElem?_eq_getElem f);obtain ⟨x0, x1, x2, R, Q, O, hx⟩ := lsx t.1;have B := t.2.2 0 (.int .i8 x0) (by rw [hx]; rfl);have U : K = none := by simpa [Addr.add] using World.cell?_spot B
   subst U;refine ⟨b, off, rfl, fun i x hix => ?_⟩;have M : (cSt S).length = S.length * 7 := by
    have : ∀ L : List StepQ, (∀ s ∈ L, s.1.length = 6) -> (cSt L).length = L.length * 7 := fun L => by
     induction L with
     | nil => intro _; rfl
     | cons s L ih => intro Z; unfold cSt at ih ⊢; rw [List.flatMap_cons, List.length_append, ih (fun x hx => Z x (by simp [hx]))]; have := Z s (by simp); simp [this]; omega
    exact this S V
   have g : i < S.length * 7 := by rw [<- M]; exact (List.getElem?_eq_some_iff.1 hix).1
   have hq : i / 7 < S.length := by omega
   have d : i % 7 < 7 := Nat.mod_lt _ (by omega);have e := cSg S V (i / 7) (i % 7) hq d;have y : i / 7 * 7 + i % 7 = i := by omega
   rw [y, hix] at e;have := (Y (i / 7) S[i / 7] (List.getElem?_eq_getElem hq)).2.2 (i % 7) x e.symm;rw [Go.Lib.add_plain, Go.Lib.add_plain, Nat.add_assoc, y] at this;exact this
  ·obtain ⟨i, X⟩ := List.mem_iff_getElem?.1 Z
   exact ⟨(Y i s X).1, (Y i s X).2.1⟩
theorem p2t : (Tryz.prog).cellTypes (Tryz.prog).depth 31 = some [5, 22, 22, 4, 22, 22, 22, 22, 22, 22, 4, 29] := by kernel_rfl
theorem p2s : ∃ fs, (Tryz.prog).underlying 31 = some (.struct fs) := ⟨_, Tryz.underlying31⟩
theorem p2c : (Tryz.prog).cellsOf 31 = 12 := by kernel_rfl
theorem op2 {r : Reach} {b : Nat} {v : Value} {d : DataW H} {ps : List MemPlace} (h : Value.okWide Tryz.prog w r b 31 v) (C : DataW.Trod enc Tryz.prog w base sp held 31 v d ps) :
 ∃ (X V U : Int) (Z : Bool) (a0 Q O N M L : Int) (K : Bool) (R : Value) (S : List StepQ),
  v = .agg #[.int .u8 X, .int .i8 V, .int .i8 U, .bool Z, .int .i8 a0, .int .i8 Q, .int .i8 O, .int .i8 N, .int .i8 M, .int .i8 L, .bool K, R] /\
  (0 <= X /\ X <= 255) /\ (-128 <= V /\ V <= 127) /\ (-128 <= U /\ U <= 127) /\ (∀ x ∈ [a0, Q, O, N, M, L], -128 <= x /\ x <= 127) /\ RdSt w R S := by
 obtain ⟨fs, A⟩ := p2s;obtain ⟨cs, rfl, y, J⟩ := acs A p2t p2c h;have I : ∀ i, [5, 22, 22, 4, 22, 22, 22, 22, 22, 22, 4, 29][i]? = some 22 -> ∃ n, cs[i]? = some (Value.int .i8 n) /\ -128 <= n /\ n <= 127 := fun i hi => by
  obtain ⟨x, hx, Y⟩ := J i _ hi;obtain ⟨n, rfl, hn⟩ := cit i8T Y;exact ⟨n, hx, hi8 hn⟩
 have B : ∀ i, [5, 22, 22, 4, 22, 22, 22, 22, 22, 22, 4, 29][i]? = some 4 -> ∃ n, cs[i]? = some (Value.bool n) := fun i hi => by
  obtain ⟨x, hx, Y⟩ := J i _ hi;obtain ⟨n, rfl⟩ := cbl boolT Y;exact ⟨n, hx⟩
 obtain ⟨x, hx, Y⟩ := J 0 _ rfl;obtain ⟨X, rfl, z⟩ := cit u8T Y;obtain ⟨V, s, l1⟩ := I 1 rfl;obtain ⟨U, q, l2⟩ := I 2 rfl;obtain ⟨Z, p⟩ := B 3 rfl;obtain ⟨a0, o, l4⟩ := I 4 rfl;obtain ⟨Q, l, l5⟩ := I 5 rfl;obtain ⟨O, k, l6⟩ := I 6 rfl;obtain ⟨N, g, l7⟩ := I 7 rfl;obtain ⟨M, f, l8⟩ := I 8 rfl;obtain ⟨L, e, l9⟩ := I 9 rfl;obtain ⟨K, G⟩ := B 10 rfl;obtain ⟨R, E, -⟩ := J 11 _ rfl;have a : cs = #[.int .u8 X, .int .i8 V, .int .i8 U, .bool Z, .int .i8 a0, .int .i8 Q, .int .i8 O, .int .i8 N, .int .i8 M, .int .i8 L, .bool K, R] := by
  apply Array.ext_getElem?;intro i
  match i with
  | 0 => exact hx
  | 1 => exact s
  | 2 => exact q
  | 3 => exact p
  | 4 => exact o
  | 5 => exact l
  | 6 => exact k
  | 7 => exact g
  | 8 => exact f
  | 9 => exact e
  | 10 => exact G
  | 11 => exact E
  | j + 12 => rw [Array.getElem?_eq_none (by have : cs.size = 12 := y; omega), Array.getElem?_eq_none (by simp)]
 subst a;obtain ⟨fuel, C⟩ := C;obtain ⟨xs, m, rfl, -, -, t, hf⟩ := DataW.trod_struct Tryz.underlying31 C;have h0 : xs.length = 3 := t;have D : DataW.trod enc Tryz.prog w base sp held m 29 (((#[Value.int .u8 X, .int .i8 V, .int .i8 U, .bool Z, .int .i8 a0, .int .i8 Q, .int .i8 O, .int .i8 N, .int .i8 M, .int .i8 L, .bool K, R] : Array Value).toList.drop 11).take ((Tryz.prog).cellsOf 29)) = xs[2]? := hf 2 _ rfl;rw [List.getElem?_eq_getElem (by omega)] at D;have c : (Tryz.prog).cellsOf 29 = 1 := by kernel_rfl
 rw [c] at D;obtain ⟨S, hS⟩ := tss (v := R) D;refine ⟨X, V, U, Z, a0, Q, O, N, M, L, K, R, S, rfl, hu8 z, l1, l2, ?_, hS⟩;intro x hx;simp only [List.mem_cons, List.not_mem_nil, or_false] at hx;rcases hx with rfl | rfl | rfl | rfl | rfl | rfl <;> assumption
end
end Go.Proofs.YtmcbeajdloaliaaGreatDoor
namespace Go.Proofs.YtmcbeajdloaliaaGreatDoor
open Go.ChangeShapes Go.WideShapes Go.ChangeAt Go.RowKit Go.Lib
theorem sts : (Tryz.prog).cellTypes (Tryz.prog).depth 77 = some [5, 5, 55, 9] := by kernel_rfl
theorem sst : ∃ fs, (Tryz.prog).underlying 77 = some (.struct fs) := ⟨_, Tryz.underlying77⟩
theorem scs : (Tryz.prog).cellsOf 77 = 4 := by kernel_rfl
theorem sT9 : (Tryz.prog).underlying 9 = some .string := by kernel_rfl
theorem os2 {w : World} {r : Reach} {b : Nat} {v : Value} (h : Value.okWide Tryz.prog w r b 77 v) :
 ∃ (X Y : Int) (L M : ByteArray), v = .agg #[.int .u8 X, .int .u8 Y, .string L, .string M] /\ (0 <= X /\ X <= 255) /\ (0 <= Y /\ Y <= 255) := by
 obtain ⟨fs, U⟩ := sst;obtain ⟨cs, rfl, S, V⟩ := acs U sts scs h;obtain ⟨x, R, Z⟩ := V 0 _ rfl;obtain ⟨X, rfl, K⟩ := cit u8T Z;obtain ⟨x, Q, Z⟩ := V 1 _ rfl;obtain ⟨Y, rfl, J⟩ := cit u8T Z;obtain ⟨x, O, Z⟩ := V 2 _ rfl;obtain ⟨L, rfl, -⟩ := csr ratT Z;obtain ⟨x, N, Z⟩ := V 3 _ rfl;obtain ⟨M, rfl, -⟩ := csr sT9 Z;refine ⟨X, Y, L, M, ?_, hu8 K, hu8 J⟩;congr 1;apply Array.ext_getElem?;intro i
 match i with
 | 0 => exact R
 | 1 => exact Q
 | 2 => exact O
 | 3 => exact N
 | j + 4 => rw [Array.getElem?_eq_none (by have : cs.size = 4 := S; omega), Array.getElem?_eq_none (by simp)]
end Go.Proofs.YtmcbeajdloaliaaGreatDoor
