import Derived.Test.YtmcbeajdloaliaaGreatDoorYS32
import Derived.Shelf.Spec.SlicesInsertGrow
/- slices.Insert of one value into a row of the call's own, at texts and at A deposit of numbers stack.Insert into a right deposit. -/
set_option maxHeartbeats 4000000
set_option maxRecDepth 100000
namespace Go.Proofs.YtmcbeajdloaliaaGreatDoor
open Go.RowKit Go.Lib Go.Shelf
theorem BoxN.setCells {b t : Nat} : ∀ (Z : List Value) (o : Nat) {w : World} {l : List Value}, BoxN w b t l -> o + Z.length <= l.length -> BoxN (w.setCells b o Z) b t (l.take o ++ Z ++ l.drop (o + Z.length))
 | [], o, w, l, h, _ => by simpa [World.setCells] using h
 | v :: r, o, w, l, h, hl => by
   have U : o + (r.length + 1) <= l.length := hl;have Y := BoxN.setCells r (o + 1) (h.set o v) (by rw [List.length_set]; omega);rw [World.setCells];have e : (l.set o v).take (o + 1) ++ r ++ (l.set o v).drop (o + 1 + r.length) = l.take o ++ (v :: r) ++ l.drop (o + (v :: r).length) := by
    have X : (l.set o v).take (o + 1) = l.take o ++ [v] := by
     rw [List.take_succ_eq_append_getElem (by rw [List.length_set]; omega), List.getElem_set_self];congr 1;rw [List.take_set_of_le (Nat.le_refl _)]
    have V : (l.set o v).drop (o + 1 + r.length) = l.drop (o + (v :: r).length) := by
     rw [List.drop_set_of_lt (by omega)];congr 1;simp; omega
    rw [X, V];simp
   rw [e] at Y;exact Y
theorem gsC {W : World} {g : Nat} : ∀ (Z : List Value) (o : Nat) {w : World}, W.grownBy w (some g) -> W.grownBy (w.setCells g o Z) (some g)
 | [], _, _, h => h
 | v :: r, o, _, h => gsC r (o + 1) (gst h o v)
theorem gdw {W w : World} {M : Option Nat} (h : W.grownBy w M) : W.grownBy w.drew M := ⟨h.os, h.tape, h.output, h.size, h.block⟩
theorem oob {w : World} {B g e n c : Nat} {l : List Value} {cs : List Value} (h : BoxN w g e l) (Y : B <= g) (S : n <= c) (U : c <= maxLen) (V : l.length = c) (Z : l.take n = cs) : w.ownsRow B e 1 (.slice (some ⟨g, 0, none⟩) n c) n cs := by
 have X : cs.length = n := by rw [<- Z, List.length_take]; omega
 exact ⟨by omega, .inr ⟨g, c, l.toArray, rfl, Y, h, S, U, by simpa using V, by simpa using Z⟩⟩
theorem boo {w : World} {B e n : Nat} {v : Value} {cs : List Value} (h : w.ownsRow B e 1 v n cs) (M : 0 < n) : ∃ g c l, v = .slice (some ⟨g, 0, none⟩) n c /\ B <= g /\ BoxN w g e l /\ n <= c /\ c <= maxLen /\ l.length = c /\ l.take n = cs := by
 obtain ⟨N, U⟩ := h;rcases U with ⟨rfl, O⟩ | ⟨g, cap, Z, rfl, S, R, V, Y, X, Q⟩
 ·omega
 ·exact ⟨g, cap, Z.toList, rfl, S, by unfold BoxN; simpa using R, V, Y, by simpa using X, by simpa using Q⟩
theorem ie0 {l cs : List Value} {x : Value} {n i : Nat} (X : l.take n = cs) (O : i < n) (N : n + 1 <= l.length) :
 let Z := l.take (i + 1) ++ cs.drop i ++ l.drop (i + 1 + (cs.drop i).length)
 Z.length = l.length /\ (Z.take i ++ [x] ++ Z.drop (i + 1)).take (n + 1) = cs.take i ++ x :: cs.drop i := by
 have Y : cs.length = n := by rw [<- X, List.length_take]; omega
 have Q : (cs.drop i).length = n - i := by rw [List.length_drop, Y]
 intro Z;have R : Z.length = l.length := by
  simp only [Z, List.length_append, List.length_take, Q, List.length_drop]; omega
 refine ⟨R, ?_⟩;have V : Z.take i = cs.take i := by
  simp only [Z];rw [List.append_assoc, List.take_append_of_le_length (by rw [List.length_take]; omega), List.take_take, <- X, List.take_take];congr 1;omega
 have U : (Z.drop (i + 1)).take (n - i) = cs.drop i := by
  simp only [Z];rw [List.append_assoc, List.drop_append_of_le_length (by rw [List.length_take]; omega), List.drop_of_length_le (by rw [List.length_take]; omega), List.nil_append, List.take_append_of_le_length (by omega), List.take_of_length_le (by omega)]
 have S : (cs.take i).length = i := by rw [List.length_take]; omega
 rw [V, List.append_assoc, List.take_append, S, List.take_of_length_le (by omega), List.singleton_append];congr 1;rw [show n + 1 - i = (n - i) + 1 by omega, List.take_succ_cons, U]
theorem igw {l0 cs : List Value} {x : Value} {n i : Nat} (Y : cs.length = n) (R : l0.take i = cs.take i) (Q : i < n) (O : n + 1 <= l0.length) :
 let Z := l0.take i ++ [x] ++ l0.drop (i + 1)
 Z.length = l0.length /\ (Z.take (i + 1) ++ cs.drop i ++ Z.drop (i + 1 + (cs.drop i).length)).length = l0.length /\ (Z.take (i + 1) ++ cs.drop i ++ Z.drop (i + 1 + (cs.drop i).length)).take (n + 1) = cs.take i ++ x :: cs.drop i := by
 have U : (cs.drop i).length = n - i := by rw [List.length_drop, Y]
 intro Z;have V : Z.length = l0.length := by
  simp only [Z, List.length_append, List.length_take, List.length_drop, List.length_singleton]; omega
 refine ⟨V, by simp only [List.length_append, List.length_take, List.length_drop, V]; omega, ?_⟩;have X : (cs.take i).length = i := by rw [List.length_take]; omega
 have S : Z.take (i + 1) = cs.take i ++ [x] := by
  simp only [Z];rw [R, List.take_append_of_le_length (by simp; omega), List.take_of_length_le (by simp; omega)]
 rw [S, List.take_append_of_le_length (by simp only [List.length_append, X, U, List.length_singleton]; omega), List.take_of_length_le (by simp only [List.length_append, X, U, List.length_singleton]; omega)];simp
theorem iSs (b n c i X : Nat) (cs : List Value) (x : Value) (w : World) (hi : i < n) (C : n + 1 <= c) (r : c <= 9223372036854775807) (O : X ≠ b)
 (K : cs.length = n) (J : ∀ j v, cs[j]? = some v -> w.cell? ⟨b, 0 + j, none⟩ = some v) (U : ∀ j, j < n + 1 -> (w.cell? ⟨b, 0 + j, none⟩).isSome = true) (S : ∀ j, j < n + 1 -> w.frozen? ⟨b, 0 + j, none⟩ = false)
 (z : ∀ j v, [x][j]? = some v -> w.cell? ⟨X, 0 + j, none⟩ = some v) (M : ∀ v ∈ cs, v.oneCell' = true) (L : ∀ v ∈ [x], v.oneCell' = true)
 (q p : TypeId) (y t : Nat) (B : w.shape? X = some (q, y)) (A : w.shape? b = some (p, t)) (E : t ≠ 0) (H : w.frozen? ⟨X, 0, none⟩ = false) (G : w.frozen? ⟨X, y, none⟩ = false) :
 Calls Tryz.prog 45 #[.slice (some ⟨b, 0, none⟩) n c, .int .i64 i, .slice (some ⟨X, 0, none⟩) 1 1] w fun e w' =>
  e = .returned (.slice (some ⟨b, 0, none⟩) (n + 1) c) /\ w' = (w.drew.setCells b (0 + (i + 1)) (cs.drop i)).setCells b (0 + i) [x] := by
 have s : (Tryz.prog).follows .mixedOrders = true := by kernel_rfl
 have h0 : ¬ ((i : Int) = (n : Int)) := by omega
 have Q : ((Tryz.prog).info? 9).map (·.size) = some 1 := by kernel_rfl
 have D : ∀ lb cb, (callFunc 83 #[.slice (some ⟨X, 0, none⟩) 1 1, .slice (some ⟨b, i + 1, none⟩) lb cb]).run Tryz.prog w = .ok (.value (.bool false)) w := fun lb cb => by
  rw [run_callFunc_extern Tryz.func83 (by kernel_rfl) (by kernel_rfl) (by kernel_rfl) (e := Extern.SlicesOverlaps.overlaps #[42, 42] #[4]) (by kernel_rfl),
   Lib.run_overlaps_apart w 42 4 9 Tryz.underlying42 1 Tryz.sizeOf9 ⟨X, 0, none⟩ ⟨b, i + 1, none⟩ 1 1 lb cb O q p y t B A E H G]
  rfl
 have I : (cs.drop i).length = n - i := by rw [List.length_drop, K]
 have a : IntKind.i64.wrap ((i : Int) + 1) = (i : Int) + 1 := by rw [IntKind.wrap_i64]; omega
 have o : (0 : Int) <= (i : Int) + 1 := by omega
 have f : i <= n := by omega
 have d : ((i : Int) + 1).toNat = i + 1 := by omega
 have m : ¬ (c = i + 1) := by omega
 have l : (i : Int) <= (n : Int) + 1 := by omega
 have g : ¬ (c = i) := by omega
 have Y : ∀ ty dc sc, (Builtin.copy_ #[42, 42] ty #[.slice (some ⟨b, 0 + (i + 1), none⟩) (n + 1 - (i + 1)) dc, .slice (some ⟨b, 0 + i, none⟩) (n + 1 - i) sc]).run Tryz.prog w.drew = .ok (goInt (cs.drop i).length) (w.drew.setCells b (0 + (i + 1)) (cs.drop i)) := fun ty dc sc =>
  run_copy_cells w.drew _ _ ty 9 b (0 + (i + 1)) (n + 1 - (i + 1)) dc ⟨b, 0 + i, none⟩ (n + 1 - i) sc (cs.drop i) Tryz.underlying42 Q (by rw [I]; simp only [Nat.min_def]; split <;> omega)
   (fun j v hj => by rw [Addr.add_lit, Nat.add_assoc]; exact J (i + j) v (by rwa [List.getElem?_drop] at hj))
   (fun j hj => by rw [Nat.add_assoc]; exact U _ (by omega)) (fun j hj => by rw [Nat.add_assoc]; exact S _ (by omega)) (fun v hv => M v (List.mem_of_mem_drop hv))
 obtain ⟨N, Z⟩ := zex (w.drew.setCells b (0 + (i + 1)) (cs.drop i));have R : ∀ k, k < n + 1 -> (N.cell? ⟨b, 0 + k, none⟩).isSome = true := fun k hk => by
  rw [Z];exact Go.Proofs.isSome_setCells b _ _ _ (fun j hj => by rw [Nat.add_assoc]; exact U _ (by omega)) _ (U k hk)
 have V : ∀ (W : World), (∀ x, W.cell? x = N.cell? x) -> (∀ x, W.frozen? x = N.frozen? x) -> ∀ ty dc, (Builtin.copy_ #[42, 42] ty #[.slice (some ⟨b, 0 + i, none⟩) (n + 1 - i) dc, .slice (some ⟨X, 0, none⟩) 1 1]).run Tryz.prog W = .ok (goInt [x].length) (W.setCells b (0 + i) [x]) := fun W hWc hWf ty dc =>
  run_copy_cells W _ _ ty 9 b (0 + i) (n + 1 - i) dc ⟨X, 0, none⟩ 1 1 [x] Tryz.underlying42 Q (by simp only [Nat.min_def, List.length_singleton]; split <;> omega)
   (fun j v hj => by
     rw [Addr.add_lit, hWc, Z, World.cell?_setCells_out b _ _ _ _ (fun h _ => absurd h O)];exact z j v hj)
   (fun j hj => by rw [hWc, Nat.add_assoc]; exact R _ (by simp at hj; omega)) (fun j hj => by rw [hWf, Z, World.frozen?_setCells, Nat.add_assoc]; exact S _ (by simp at hj; omega)) L
 rw [<- Z] at Y;simp only [Nat.zero_add] at Y V;go_enter Tryz.func45, Tryz.ntmps45;go_wp2_with (simp only [D])
 go_region_law_o (refine step_copy_runI rfl _ _ 42 42 rfl (.slice (some ⟨b, i + 1, none⟩) (n + 1 - (i + 1)) (c - (i + 1))) (.slice (some ⟨b, i, none⟩) (n + 1 - i) (c - i)) (by simp [Act.eval, Act.put]) (by simp [Act.eval, Act.put]) (Y _ _ _) ?_)
 go_wp2_with (at_builtin; refine wpList_copy_runI _ rfl _ _ 42 42 rfl _ _ rfl rfl (V _ (fun _ => rfl) (fun _ => rfl) _ _) ?_);go_ret;refine ⟨rfl, ?_⟩;first | simp only [Nat.zero_add] | (rw [Z]; simp only [Nat.zero_add])
theorem ik0 (b n i Q : Nat) (cs : List Value) (x : Value) (w : World) (hi : i < n) (h3 : n <= 1000000)
 (f : cs.length = n) (O : ∀ j v, cs[j]? = some v -> w.cell? ⟨b, 0 + j, none⟩ = some v)
 (H : ∀ j v, [x][j]? = some v -> w.cell? ⟨Q, 0 + j, none⟩ = some v) (B : ∀ v ∈ cs, v.oneCell' = true) (A : ∀ v ∈ [x], v.oneCell' = true) :
 Calls Tryz.prog 45 #[.slice (some ⟨b, 0, none⟩) n n, .int .i64 i, .slice (some ⟨Q, 0, none⟩) 1 1] w fun e w' =>
  e = .returned (.slice (some ⟨w.heap.size, 0, none⟩) (n + 1) (grownCap w (n + 1) n 9)) /\
  w' = (((w.alloc (.cells ((cs.take i).toArray ++ Builtin.zeroCells (Value.string ⟨#[]⟩).cells (n + 1 - i) ++ Builtin.zeroCells (Value.string ⟨#[]⟩).cells (grownCap w (n + 1) n 9 - (n + 1))) 9)).drew.setCells w.heap.size i [x]).drew).setCells w.heap.size (i + 1) (cs.drop i) := by
 obtain ⟨i0, K, a, D, E⟩ := info_parts (show ((Tryz.prog).info? 9).map (fun i => (i.zero, i.size, i.bytes)) = some (some (Value.string ⟨#[]⟩), 1, 16) by kernel_rfl);have h0 : (Tryz.prog).follows .mixedOrders = true := by kernel_rfl
 have hc : ¬ ((i : Int) = (n : Int)) := by omega
 have hd : (n : Int) < (n : Int) + 1 := by omega
 have I : ((Tryz.prog).info? 9).map (·.size) = some 1 := by rw [K]; simp [D]
 have g : b < w.heap.size := block_lt_of_cell (O 0 _ (List.getElem?_eq_getElem (by omega)));have c : Q < w.heap.size := block_lt_of_cell (H 0 _ (List.getElem?_eq_getElem (by simp)));have J : (n : Int) + 1 - (i : Int) = ((n + 1 - i : Nat) : Int) := by omega
 have N : i + (n + 1 - i) = n + 1 := by omega
 have R : (Builtin.firstCells i0.size i (.slice (some ⟨b, 0, none⟩) i n)).run Tryz.prog w.drew = .ok (cs.take i).toArray w.drew := by
  rw [D];exact run_firstCells_some w.drew 1 i ⟨b, 0, none⟩ i n (cs.take i) (by rw [List.length_take]; omega) (fun j v hj => by
   rw [Addr.add_lit];rw [List.getElem?_take] at hj;split at hj
   ·exact O j v hj
   ·cases hj)
 have V : ∀ ty, (Builtin.append_ #[42, 3] ty #[.slice (some ⟨b, 0, none⟩) i n, .int .i64 ((n : Int) + 1 - (i : Int))]).run Tryz.prog w =
  .ok (.slice (some ⟨w.heap.size, 0, none⟩) (n + 1) (grownCap w (n + 1) n 9)) (w.drew.alloc (.cells ((cs.take i).toArray ++ Builtin.zeroCells (Value.string ⟨#[]⟩).cells (n + 1 - i) ++ Builtin.zeroCells (Value.string ⟨#[]⟩).cells (grownCap w (n + 1) n 9 - (n + 1))) 9)) := fun ty => by
  have h := Lib.run_append_grow_zeros w 42 3 ty 9 i0 _ .i64 .i64 Tryz.underlying42 Tryz.underlying3 K a (some ⟨b, 0, none⟩) i n (cs.take i) R (n + 1 - i) (by omega) (by omega) (by omega) (by omega) (by rw [E]; omega) (by rw [E, N]; exact growslice_fits (by omega) (by omega));rw [N] at h;rw [J];exact h
 obtain ⟨G, C⟩ := zex (grownCap w (n + 1) n 9);obtain ⟨Z, X⟩ := zex ((cs.take i).toArray ++ Builtin.zeroCells (Value.string ⟨#[]⟩).cells (n + 1 - i) ++ Builtin.zeroCells (Value.string ⟨#[]⟩).cells (G - (n + 1)) : Array Value);rw [<- C] at V ⊢;rw [<- X] at V ⊢;have l : n + 1 <= Z.size := by
  rw [X];simp [Builtin.zeroCells, Value.cells];omega
 obtain ⟨U, Y⟩ := zex (w.drew.alloc (.cells Z 9));rw [<- Y] at V;have p : ∀ j, j < n + 1 -> (U.cell? ⟨w.heap.size, j, none⟩).isSome = true := fun j hj => by
  rw [Y, World.cell?_alloc_at (w := w.drew) Z _ w.heap.size j rfl, Array.getElem?_eq_getElem (by omega)]; rfl
 have M : ∀ j, U.frozen? ⟨w.heap.size, j, none⟩ = false := fun j => by rw [Y]; exact World.frozen?_alloc_at (w := w.drew) Z _ w.heap.size j rfl
 have o : ∀ j v, w.cell? ⟨b, j, none⟩ = some v -> U.cell? ⟨b, j, none⟩ = some v := fun j v h => by rw [Y, World.cell?_alloc_past (w := w.drew) _ b j g]; exact h
 have m : ∀ j v, w.cell? ⟨Q, j, none⟩ = some v -> U.cell? ⟨Q, j, none⟩ = some v := fun j v h => by rw [Y, World.cell?_alloc_past (w := w.drew) _ Q j c]; exact h
 have L : ∀ (W : World), (∀ x, W.cell? x = U.cell? x) -> (∀ x, W.frozen? x = U.frozen? x) -> ∀ ty dc, (Builtin.copy_ #[42, 42] ty #[.slice (some ⟨w.heap.size, i, none⟩) (n + 1 - i) dc, .slice (some ⟨Q, 0, none⟩) 1 1]).run Tryz.prog W = .ok (goInt [x].length) (W.setCells w.heap.size i [x]) := fun W hWc hWf ty dc =>
  run_copy_cells W _ _ ty 9 w.heap.size i (n + 1 - i) dc ⟨Q, 0, none⟩ 1 1 [x] Tryz.underlying42 I (by simp only [Nat.min_def, List.length_singleton]; split <;> omega)
   (fun j v hj => by rw [Addr.add_lit, hWc]; exact m _ v (H j v hj))
   (fun j hj => by rw [hWc]; exact p _ (by simp at hj; omega)) (fun j hj => by rw [hWf]; exact M _) A
 have h5 : n + 1 <= G := by rw [C]; exact grownCap_ge w _ _ _
 have h1 : G <= 9223372036854775807 := by
  have := grownCap_le_maxLen w (n + 1) n 9 (by unfold maxLen; omega);rw [<- C] at this;unfold maxLen at this;omega
 have h4 : ¬ (G = i) := by omega
 have h2 : ¬ (G = i + 1) := by omega
 have h8 : ¬ (n = i) := by omega
 have k : b ≠ w.heap.size := by omega
 have d : (cs.drop i).length = n - i := by rw [List.length_drop, f]
 have S : ∀ (W : World), (∀ y, W.cell? y = (U.setCells w.heap.size i [x]).cell? y) -> (∀ y, W.frozen? y = (U.setCells w.heap.size i [x]).frozen? y) -> ∀ ty dc sc, (Builtin.copy_ #[42, 42] ty #[.slice (some ⟨w.heap.size, i + 1, none⟩) (n + 1 - (i + 1)) dc, .slice (some ⟨b, i, none⟩) (n - i) sc]).run Tryz.prog W = .ok (goInt (cs.drop i).length) (W.setCells w.heap.size (i + 1) (cs.drop i)) := fun W hWc hWf ty dc sc =>
  run_copy_cells W _ _ ty 9 w.heap.size (i + 1) (n + 1 - (i + 1)) dc ⟨b, i, none⟩ (n - i) sc (cs.drop i) Tryz.underlying42 I (by rw [d]; simp only [Nat.min_def]; split <;> omega)
   (fun j v hj => by
     rw [Addr.add_lit, hWc, World.cell?_setCells_out _ _ _ _ _ (fun h _ => absurd h k)];have h := O (i + j) v (by rwa [List.getElem?_drop] at hj);rw [Nat.zero_add] at h;exact o _ v h)
   (fun j hj => by rw [hWc]; exact Go.Proofs.isSome_setCells _ _ _ _ (fun t ht => p _ (by simp at ht; omega)) _ (p _ (by omega)))
   (fun j hj => by rw [hWf, World.frozen?_setCells]; exact M _) (fun v hv => B v (List.mem_of_mem_drop hv))
 subst Y;have z : ∀ x, ((w.alloc (.cells Z 9)).drew).cell? x = (w.drew.alloc (.cells Z 9)).cell? x := fun x => rfl;have s : ∀ x, ((w.alloc (.cells Z 9)).drew).frozen? x = (w.drew.alloc (.cells Z 9)).frozen? x := fun x => rfl;have r : ∀ y, (((w.alloc (.cells Z 9)).drew.setCells w.heap.size i [x]).drew).cell? y = ((w.drew.alloc (.cells Z 9)).setCells w.heap.size i [x]).cell? y := fun y => rfl;have q : ∀ y, (((w.alloc (.cells Z 9)).drew.setCells w.heap.size i [x]).drew).frozen? y = ((w.drew.alloc (.cells Z 9)).setCells w.heap.size i [x]).frozen? y := fun y => rfl;have hb : IntKind.i64.wrap ((i : Int) + 1) = (i : Int) + 1 := by rw [IntKind.wrap_i64]; omega
 have h6 : (0 : Int) <= (i : Int) + 1 := by omega
 have h9 : i <= n := by omega
 have ha : ((i : Int) + 1).toNat = i + 1 := by omega
 have h7 : (i : Int) <= (n : Int) := by omega
 clear J N R X C l;go_enter Tryz.func45, Tryz.ntmps45;go_wp2_with (first
  | (at_builtin; refine Lib.wpList_append_run _ rfl _ _ _ _ rfl _ _ rfl rfl _ _ (V _) ?_)
  | (at_builtin; refine wpList_copy_runI _ rfl _ _ 42 42 rfl _ _ rfl rfl (L _ z s _ _) ?_)
  | (at_builtin; refine wpList_copy_runI _ rfl _ _ 42 42 rfl _ _ rfl rfl (S _ (fun _ => rfl) (fun _ => rfl) _ _ _) ?_))
 go_region_law_o (refine step_copy_runI rfl _ _ 42 42 rfl (.slice (some ⟨w.heap.size, i + 1, none⟩) (n + 1 - (i + 1)) (G - (i + 1))) (.slice (some ⟨b, i, none⟩) (n - i) (n - i)) (by simp [Act.eval, Act.put]) (by simp [Act.eval, Act.put]) (S _ r q 3 (G - (i + 1)) (n - i)) ?_)
 go_wp2;go_ret;exact ⟨rfl, rfl⟩
theorem im0 (w : World) (B : Nat) (v : Value) (n i J : Nat) (cs : List Value) (x : Value) (X : w.ownsRow B 9 1 v n cs) (U : BoxN w J 9 [x]) (E : ∀ u ∈ cs, u.oneCell' = true) (h2 : x.oneCell' = true)
 (ha : i <= n) (hn : n <= 1000000) (hB : B <= w.heap.size) (z : v.ownBlock ≠ some J) :
 Calls Tryz.prog 45 #[v, .int .i64 i, .slice (some ⟨J, 0, none⟩) 1 1] w fun e w' => ∃ v', e = .returned v' /\ w'.ownsRow B 9 1 v' (n + 1) (cs.take i ++ x :: cs.drop i) /\ w.grownBy w' v.ownBlock := by
 have K : ∀ j u, [x][j]? = some u -> w.cell? ⟨J, 0 + j, none⟩ = some u := fun j u hj => by rw [Nat.zero_add]; exact U.cell j hj
 have N : ∀ u ∈ [x], u.oneCell' = true := fun u hu => by simp at hu; subst hu; exact h2
 have R : cs.length = n := by have := X.1; omega
 rcases Nat.lt_or_ge i n with L | h9
 ·obtain ⟨g, c, l, rfl, h3, S, C, Q, hf, s⟩ := boo X (by omega)
  have hc : J ≠ g := fun e => z (by subst e; rfl)
  have I := Q;unfold maxLen at I;have M : ∀ j u, cs[j]? = some u -> w.cell? ⟨g, 0 + j, none⟩ = some u := fun j u hj => by
   rw [Nat.zero_add];refine S.cell j ?_;rw [<- s, List.getElem?_take] at hj;split at hj
   ·exact hj
   ·cases hj
  rcases Nat.lt_or_ge n c with O | h7
  ·refine (iSs g n c i J cs x w L O I hc R M (fun j hj => ?_) (fun j _ => S.frozen _) K E N 9 9 1 l.length (by unfold BoxN at U; simp [World.shape?, U]) (by unfold BoxN at S; simp [World.shape?, S]) (by omega) (U.frozen 0) (U.frozen 1)).mono ?_
   ·rw [S.cell (0 + j) (List.getElem?_eq_getElem (by omega))]; rfl
   ·rintro e w' ⟨rfl, rfl⟩
    obtain ⟨k, a⟩ := ie0 (x := x) s L (by omega : n + 1 <= l.length);have hd : (cs.drop i).length = n - i := by rw [List.length_drop, R]
    have h := BoxN.setCells (cs.drop i) (i + 1) S.drew (by omega);have f := BoxN.setCells [x] i h (by rw [k]; simp; omega);rw [Nat.zero_add, Nat.zero_add];refine ⟨_, rfl, oob f h3 O Q ?_ a, gsC [x] i (gsC (cs.drop i) (i + 1) (gdw (grl w (some g))))⟩;simp only [List.length_append, List.length_take, List.length_drop, List.length_singleton] at k ⊢;omega
  ·obtain rfl : c = n := by omega
   refine (ik0 g c i J cs x w L hn R M K E N).mono ?_;rintro e w' ⟨rfl, rfl⟩;have h4 := grownCap_ge w (c + 1) c 9;have h5 := grownCap_le_maxLen w (c + 1) c 9 (by unfold maxLen; omega);generalize grownCap w (c + 1) c 9 = G at *;obtain ⟨V, hR⟩ := zex ((cs.take i).toArray ++ Builtin.zeroCells (Value.string ⟨#[]⟩).cells (c + 1 - i) ++ Builtin.zeroCells (Value.string ⟨#[]⟩).cells (G - (c + 1)) : Array Value);rw [<- hR];have A : V.toList.length = G := by
    rw [hR];simp [Builtin.zeroCells, Value.cells];omega
   have h6 : V.toList.take i = cs.take i := by
    rw [hR];simp only [Array.toList_append, List.append_assoc];rw [List.take_append_of_le_length (by rw [List.length_take]; omega), List.take_take, Nat.min_self]
   have kb : BoxN (w.alloc (.cells V 9)) w.heap.size 9 V.toList := BoxN.new _ _ _ _ rfl;obtain ⟨e0, k, a⟩ := igw (x := x) R h6 L (by omega);have hd : (cs.drop i).length = c - i := by rw [List.length_drop, R]
   have h := BoxN.setCells [x] i kb.drew (by rw [A]; simp; omega);have f := BoxN.setCells (cs.drop i) (i + 1) h.drew (by simp only [List.length_singleton]; rw [e0]; omega);simp only [List.length_singleton] at h f;have h8 : w.grownBy (((w.alloc (.cells V 9)).drew.setCells w.heap.size i [x]).drew.setCells w.heap.size (i + 1) (cs.drop i)) (some g) := by
    have m : (w.alloc (.cells V 9)).grownBy (((w.alloc (.cells V 9)).drew.setCells w.heap.size i [x]).drew.setCells w.heap.size (i + 1) (cs.drop i)) (some w.heap.size) := gsC _ _ (gdw (gsC _ _ (gdw (grl (w.alloc (.cells V 9)) _))));refine ⟨m.os, m.tape, m.output, Nat.le_trans (by simp) m.size, fun j hj hne' => ?_⟩;rw [m.block j (by simp; omega) (fun e => by cases e; omega)];exact hh0 _ _ _ hj
   exact ⟨_, rfl, oob f hB h4 h5 (by rw [k]; exact A) a, h8⟩
 ·obtain rfl : i = n := by omega
  obtain ⟨i0, t, r, o, q⟩ := info_parts (show ((Tryz.prog).info? 9).map (fun i => (i.zero, i.size, i.bytes)) = some (some (Value.string ⟨#[]⟩), 1, 16) by kernel_rfl);obtain ⟨p, c, rfl⟩ := oRs X;have HO := hid X;have HV := hid K;have HC := hid U;have hE : Hid (cs.take i ++ x :: cs.drop i = cs ++ [x]) := by unfold Hid; rw [List.take_of_length_le (by omega), List.drop_of_length_le (by omega)]
  have hh : c <= 9223372036854775807 := by
   rcases X.2 with ⟨H, h1⟩ | ⟨g, cap, b, H, hb, hg, C, Q, M, ht⟩
   ·cases H; omega
   ·cases H; exact Q
  have he : i <= c := by
   rcases X.2 with ⟨H, h1⟩ | ⟨g, cap, b, H, hb, hg, C, Q, M, ht⟩
   ·cases H; omega
   ·cases H; exact C
  clear X K U z R h9 ha E;rcases (Decidable.em (c = i)) with y | y
  ·subst y
   go_enter Tryz.func45, Tryz.ntmps45
   go_wp2_with (at_builtin; refine wpList_append_own _ rfl _ _ 42 rfl B 9 i0 (Value.string ⟨#[]⟩) 1 16 Tryz.underlying42 t r o q rfl (by decide) _ _ _ rfl HO.out ⟨J, 0, none⟩ 1 1 [x] rfl rfl (fun j u hu => by rw [Addr.add_lit]; exact HV.out j u hu) N (by unfold maxLen; omega) (by omega) hB ?_
                intro v7 w7 Z Y _)
   have D : w.grownBy w7 (Value.slice p c c).ownBlock := Y;rw [<- hE.out] at Z;have d := hid Z;clear Z Y;go_wp2_with fail;go_ret;exact ⟨_, rfl, d.out, D⟩
  ·go_enter Tryz.func45, Tryz.ntmps45
   go_wp2_with (at_builtin; refine wpList_append_own _ rfl _ _ 42 rfl B 9 i0 (Value.string ⟨#[]⟩) 1 16 Tryz.underlying42 t r o q rfl (by decide) _ _ _ rfl HO.out ⟨J, 0, none⟩ 1 1 [x] rfl rfl (fun j u hu => by rw [Addr.add_lit]; exact HV.out j u hu) N (by unfold maxLen; omega) (by omega) hB ?_
                intro v7 w7 Z Y _)
   have D : w.grownBy w7 (Value.slice p i c).ownBlock := Y;rw [<- hE.out] at Z;have d := hid Z;clear Z Y;go_wp2_with fail;go_ret;exact ⟨_, rfl, d.out, D⟩
theorem iFs (b n c i X : Nat) (cs : List Value) (x : Value) (w : World) (hi : i < n) (C : n + 1 <= c) (r : c <= 9223372036854775807) (O : X ≠ b)
 (K : cs.length = n) (J : ∀ j v, cs[j]? = some v -> w.cell? ⟨b, 0 + j, none⟩ = some v) (U : ∀ j, j < n + 1 -> (w.cell? ⟨b, 0 + j, none⟩).isSome = true) (S : ∀ j, j < n + 1 -> w.frozen? ⟨b, 0 + j, none⟩ = false)
 (z : ∀ j v, [x][j]? = some v -> w.cell? ⟨X, 0 + j, none⟩ = some v) (M : ∀ v ∈ cs, v.oneCell' = true) (L : ∀ v ∈ [x], v.oneCell' = true)
 (q p : TypeId) (y t : Nat) (B : w.shape? X = some (q, y)) (A : w.shape? b = some (p, t)) (E : t ≠ 0) (H : w.frozen? ⟨X, 0, none⟩ = false) (G : w.frozen? ⟨X, y, none⟩ = false) :
 Calls Tryz.prog 46 #[.slice (some ⟨b, 0, none⟩) n c, .int .i64 i, .slice (some ⟨X, 0, none⟩) 1 1] w fun e w' =>
  e = .returned (.slice (some ⟨b, 0, none⟩) (n + 1) c) /\ w' = (w.drew.setCells b (0 + (i + 1)) (cs.drop i)).setCells b (0 + i) [x] := by
 have s : (Tryz.prog).follows .mixedOrders = true := by kernel_rfl
 have h0 : ¬ ((i : Int) = (n : Int)) := by omega
 have Q : ((Tryz.prog).info? 33).map (·.size) = some 1 := by kernel_rfl
 have D : ∀ lb cb, (callFunc 85 #[.slice (some ⟨X, 0, none⟩) 1 1, .slice (some ⟨b, i + 1, none⟩) lb cb]).run Tryz.prog w = .ok (.value (.bool false)) w := fun lb cb => by
  rw [run_callFunc_extern Tryz.func85 (by kernel_rfl) (by kernel_rfl) (by kernel_rfl) (e := Extern.SlicesOverlaps.overlaps #[43, 43] #[4]) (by kernel_rfl),
   Lib.run_overlaps_apart w 43 4 33 Tryz.underlying43 1 Tryz.sizeOf33 ⟨X, 0, none⟩ ⟨b, i + 1, none⟩ 1 1 lb cb O q p y t B A E H G]
  rfl
 have I : (cs.drop i).length = n - i := by rw [List.length_drop, K]
 have a : IntKind.i64.wrap ((i : Int) + 1) = (i : Int) + 1 := by rw [IntKind.wrap_i64]; omega
 have o : (0 : Int) <= (i : Int) + 1 := by omega
 have f : i <= n := by omega
 have d : ((i : Int) + 1).toNat = i + 1 := by omega
 have m : ¬ (c = i + 1) := by omega
 have l : (i : Int) <= (n : Int) + 1 := by omega
 have g : ¬ (c = i) := by omega
 have Y : ∀ ty dc sc, (Builtin.copy_ #[43, 43] ty #[.slice (some ⟨b, 0 + (i + 1), none⟩) (n + 1 - (i + 1)) dc, .slice (some ⟨b, 0 + i, none⟩) (n + 1 - i) sc]).run Tryz.prog w.drew = .ok (goInt (cs.drop i).length) (w.drew.setCells b (0 + (i + 1)) (cs.drop i)) := fun ty dc sc =>
  run_copy_cells w.drew _ _ ty 33 b (0 + (i + 1)) (n + 1 - (i + 1)) dc ⟨b, 0 + i, none⟩ (n + 1 - i) sc (cs.drop i) Tryz.underlying43 Q (by rw [I]; simp only [Nat.min_def]; split <;> omega)
   (fun j v hj => by rw [Addr.add_lit, Nat.add_assoc]; exact J (i + j) v (by rwa [List.getElem?_drop] at hj))
   (fun j hj => by rw [Nat.add_assoc]; exact U _ (by omega)) (fun j hj => by rw [Nat.add_assoc]; exact S _ (by omega)) (fun v hv => M v (List.mem_of_mem_drop hv))
 obtain ⟨N, Z⟩ := zex (w.drew.setCells b (0 + (i + 1)) (cs.drop i));have R : ∀ k, k < n + 1 -> (N.cell? ⟨b, 0 + k, none⟩).isSome = true := fun k hk => by
  rw [Z];exact Go.Proofs.isSome_setCells b _ _ _ (fun j hj => by rw [Nat.add_assoc]; exact U _ (by omega)) _ (U k hk)
 have V : ∀ (W : World), (∀ x, W.cell? x = N.cell? x) -> (∀ x, W.frozen? x = N.frozen? x) -> ∀ ty dc, (Builtin.copy_ #[43, 43] ty #[.slice (some ⟨b, 0 + i, none⟩) (n + 1 - i) dc, .slice (some ⟨X, 0, none⟩) 1 1]).run Tryz.prog W = .ok (goInt [x].length) (W.setCells b (0 + i) [x]) := fun W hWc hWf ty dc =>
  run_copy_cells W _ _ ty 33 b (0 + i) (n + 1 - i) dc ⟨X, 0, none⟩ 1 1 [x] Tryz.underlying43 Q (by simp only [Nat.min_def, List.length_singleton]; split <;> omega)
   (fun j v hj => by
     rw [Addr.add_lit, hWc, Z, World.cell?_setCells_out b _ _ _ _ (fun h _ => absurd h O)];exact z j v hj)
   (fun j hj => by rw [hWc, Nat.add_assoc]; exact R _ (by simp at hj; omega)) (fun j hj => by rw [hWf, Z, World.frozen?_setCells, Nat.add_assoc]; exact S _ (by simp at hj; omega)) L
 rw [<- Z] at Y;simp only [Nat.zero_add] at Y V;go_enter Tryz.func46, Tryz.ntmps46;go_wp2_with (simp only [D])
 go_region_law_o (refine step_copy_runI rfl _ _ 43 43 rfl (.slice (some ⟨b, i + 1, none⟩) (n + 1 - (i + 1)) (c - (i + 1))) (.slice (some ⟨b, i, none⟩) (n + 1 - i) (c - i)) (by simp [Act.eval, Act.put]) (by simp [Act.eval, Act.put]) (Y _ _ _) ?_)
 go_wp2_with (at_builtin; refine wpList_copy_runI _ rfl _ _ 43 43 rfl _ _ rfl rfl (V _ (fun _ => rfl) (fun _ => rfl) _ _) ?_);go_ret;refine ⟨rfl, ?_⟩;first | simp only [Nat.zero_add] | (rw [Z]; simp only [Nat.zero_add])
theorem iFg (b n i Q : Nat) (cs : List Value) (x : Value) (w : World) (hi : i < n) (h3 : n <= 1000000)
 (f : cs.length = n) (O : ∀ j v, cs[j]? = some v -> w.cell? ⟨b, 0 + j, none⟩ = some v)
 (H : ∀ j v, [x][j]? = some v -> w.cell? ⟨Q, 0 + j, none⟩ = some v) (B : ∀ v ∈ cs, v.oneCell' = true) (A : ∀ v ∈ [x], v.oneCell' = true) :
 Calls Tryz.prog 46 #[.slice (some ⟨b, 0, none⟩) n n, .int .i64 i, .slice (some ⟨Q, 0, none⟩) 1 1] w fun e w' =>
  e = .returned (.slice (some ⟨w.heap.size, 0, none⟩) (n + 1) (grownCap w (n + 1) n 33)) /\
  w' = (((w.alloc (.cells ((cs.take i).toArray ++ Builtin.zeroCells (Value.slice none 0 0).cells (n + 1 - i) ++ Builtin.zeroCells (Value.slice none 0 0).cells (grownCap w (n + 1) n 33 - (n + 1))) 33)).drew.setCells w.heap.size i [x]).drew).setCells w.heap.size (i + 1) (cs.drop i) := by
 obtain ⟨i0, K, a, D, E⟩ := info_parts (show ((Tryz.prog).info? 33).map (fun i => (i.zero, i.size, i.bytes)) = some (some (Value.slice none 0 0), 1, 24) by kernel_rfl);have h0 : (Tryz.prog).follows .mixedOrders = true := by kernel_rfl
 have hc : ¬ ((i : Int) = (n : Int)) := by omega
 have hd : (n : Int) < (n : Int) + 1 := by omega
 have I : ((Tryz.prog).info? 33).map (·.size) = some 1 := by rw [K]; simp [D]
 have g : b < w.heap.size := block_lt_of_cell (O 0 _ (List.getElem?_eq_getElem (by omega)));have c : Q < w.heap.size := block_lt_of_cell (H 0 _ (List.getElem?_eq_getElem (by simp)));have J : (n : Int) + 1 - (i : Int) = ((n + 1 - i : Nat) : Int) := by omega
 have N : i + (n + 1 - i) = n + 1 := by omega
 have R : (Builtin.firstCells i0.size i (.slice (some ⟨b, 0, none⟩) i n)).run Tryz.prog w.drew = .ok (cs.take i).toArray w.drew := by
  rw [D];exact run_firstCells_some w.drew 1 i ⟨b, 0, none⟩ i n (cs.take i) (by rw [List.length_take]; omega) (fun j v hj => by
   rw [Addr.add_lit];rw [List.getElem?_take] at hj;split at hj
   ·exact O j v hj
   ·cases hj)
 have V : ∀ ty, (Builtin.append_ #[43, 3] ty #[.slice (some ⟨b, 0, none⟩) i n, .int .i64 ((n : Int) + 1 - (i : Int))]).run Tryz.prog w =
  .ok (.slice (some ⟨w.heap.size, 0, none⟩) (n + 1) (grownCap w (n + 1) n 33)) (w.drew.alloc (.cells ((cs.take i).toArray ++ Builtin.zeroCells (Value.slice none 0 0).cells (n + 1 - i) ++ Builtin.zeroCells (Value.slice none 0 0).cells (grownCap w (n + 1) n 33 - (n + 1))) 33)) := fun ty => by
  have h := Lib.run_append_grow_zeros w 43 3 ty 33 i0 _ .i64 .i64 Tryz.underlying43 Tryz.underlying3 K a (some ⟨b, 0, none⟩) i n (cs.take i) R (n + 1 - i) (by omega) (by omega) (by omega) (by omega) (by rw [E]; omega) (by rw [E, N]; exact growslice_fits (by omega) (by omega));rw [N] at h;rw [J];exact h
 obtain ⟨G, C⟩ := zex (grownCap w (n + 1) n 33);obtain ⟨Z, X⟩ := zex ((cs.take i).toArray ++ Builtin.zeroCells (Value.slice none 0 0).cells (n + 1 - i) ++ Builtin.zeroCells (Value.slice none 0 0).cells (G - (n + 1)) : Array Value);rw [<- C] at V ⊢;rw [<- X] at V ⊢;have l : n + 1 <= Z.size := by
  rw [X];simp [Builtin.zeroCells, Value.cells];omega
 obtain ⟨U, Y⟩ := zex (w.drew.alloc (.cells Z 33));rw [<- Y] at V;have p : ∀ j, j < n + 1 -> (U.cell? ⟨w.heap.size, j, none⟩).isSome = true := fun j hj => by
  rw [Y, World.cell?_alloc_at (w := w.drew) Z _ w.heap.size j rfl, Array.getElem?_eq_getElem (by omega)]; rfl
 have M : ∀ j, U.frozen? ⟨w.heap.size, j, none⟩ = false := fun j => by rw [Y]; exact World.frozen?_alloc_at (w := w.drew) Z _ w.heap.size j rfl
 have o : ∀ j v, w.cell? ⟨b, j, none⟩ = some v -> U.cell? ⟨b, j, none⟩ = some v := fun j v h => by rw [Y, World.cell?_alloc_past (w := w.drew) _ b j g]; exact h
 have m : ∀ j v, w.cell? ⟨Q, j, none⟩ = some v -> U.cell? ⟨Q, j, none⟩ = some v := fun j v h => by rw [Y, World.cell?_alloc_past (w := w.drew) _ Q j c]; exact h
 have L : ∀ (W : World), (∀ x, W.cell? x = U.cell? x) -> (∀ x, W.frozen? x = U.frozen? x) -> ∀ ty dc, (Builtin.copy_ #[43, 43] ty #[.slice (some ⟨w.heap.size, i, none⟩) (n + 1 - i) dc, .slice (some ⟨Q, 0, none⟩) 1 1]).run Tryz.prog W = .ok (goInt [x].length) (W.setCells w.heap.size i [x]) := fun W hWc hWf ty dc =>
  run_copy_cells W _ _ ty 33 w.heap.size i (n + 1 - i) dc ⟨Q, 0, none⟩ 1 1 [x] Tryz.underlying43 I (by simp only [Nat.min_def, List.length_singleton]; split <;> omega)
   (fun j v hj => by rw [Addr.add_lit, hWc]; exact m _ v (H j v hj))
   (fun j hj => by rw [hWc]; exact p _ (by simp at hj; omega)) (fun j hj => by rw [hWf]; exact M _) A
 have h5 : n + 1 <= G := by rw [C]; exact grownCap_ge w _ _ _
 have h1 : G <= 9223372036854775807 := by
  have := grownCap_le_maxLen w (n + 1) n 33 (by unfold maxLen; omega);rw [<- C] at this;unfold maxLen at this;omega
 have h4 : ¬ (G = i) := by omega
 have h2 : ¬ (G = i + 1) := by omega
 have h8 : ¬ (n = i) := by omega
 have k : b ≠ w.heap.size := by omega
 have d : (cs.drop i).length = n - i := by rw [List.length_drop, f]
 have S : ∀ (W : World), (∀ y, W.cell? y = (U.setCells w.heap.size i [x]).cell? y) -> (∀ y, W.frozen? y = (U.setCells w.heap.size i [x]).frozen? y) -> ∀ ty dc sc, (Builtin.copy_ #[43, 43] ty #[.slice (some ⟨w.heap.size, i + 1, none⟩) (n + 1 - (i + 1)) dc, .slice (some ⟨b, i, none⟩) (n - i) sc]).run Tryz.prog W = .ok (goInt (cs.drop i).length) (W.setCells w.heap.size (i + 1) (cs.drop i)) := fun W hWc hWf ty dc sc =>
  run_copy_cells W _ _ ty 33 w.heap.size (i + 1) (n + 1 - (i + 1)) dc ⟨b, i, none⟩ (n - i) sc (cs.drop i) Tryz.underlying43 I (by rw [d]; simp only [Nat.min_def]; split <;> omega)
   (fun j v hj => by
     rw [Addr.add_lit, hWc, World.cell?_setCells_out _ _ _ _ _ (fun h _ => absurd h k)];have h := O (i + j) v (by rwa [List.getElem?_drop] at hj);rw [Nat.zero_add] at h;exact o _ v h)
   (fun j hj => by rw [hWc]; exact Go.Proofs.isSome_setCells _ _ _ _ (fun t ht => p _ (by simp at ht; omega)) _ (p _ (by omega)))
   (fun j hj => by rw [hWf, World.frozen?_setCells]; exact M _) (fun v hv => B v (List.mem_of_mem_drop hv))
 subst Y;have z : ∀ x, ((w.alloc (.cells Z 33)).drew).cell? x = (w.drew.alloc (.cells Z 33)).cell? x := fun x => rfl;have s : ∀ x, ((w.alloc (.cells Z 33)).drew).frozen? x = (w.drew.alloc (.cells Z 33)).frozen? x := fun x => rfl;have r : ∀ y, (((w.alloc (.cells Z 33)).drew.setCells w.heap.size i [x]).drew).cell? y = ((w.drew.alloc (.cells Z 33)).setCells w.heap.size i [x]).cell? y := fun y => rfl;have q : ∀ y, (((w.alloc (.cells Z 33)).drew.setCells w.heap.size i [x]).drew).frozen? y = ((w.drew.alloc (.cells Z 33)).setCells w.heap.size i [x]).frozen? y := fun y => rfl;have hb : IntKind.i64.wrap ((i : Int) + 1) = (i : Int) + 1 := by rw [IntKind.wrap_i64]; omega
 have h6 : (0 : Int) <= (i : Int) + 1 := by omega
 have h9 : i <= n := by omega
 have ha : ((i : Int) + 1).toNat = i + 1 := by omega
 have h7 : (i : Int) <= (n : Int) := by omega
 clear J N R X C l;go_enter Tryz.func46, Tryz.ntmps46;go_wp2_with (first
  | (at_builtin; refine Lib.wpList_append_run _ rfl _ _ _ _ rfl _ _ rfl rfl _ _ (V _) ?_)
  | (at_builtin; refine wpList_copy_runI _ rfl _ _ 43 43 rfl _ _ rfl rfl (L _ z s _ _) ?_)
  | (at_builtin; refine wpList_copy_runI _ rfl _ _ 43 43 rfl _ _ rfl rfl (S _ (fun _ => rfl) (fun _ => rfl) _ _ _) ?_))
 go_region_law_o (refine step_copy_runI rfl _ _ 43 43 rfl (.slice (some ⟨w.heap.size, i + 1, none⟩) (n + 1 - (i + 1)) (G - (i + 1))) (.slice (some ⟨b, i, none⟩) (n - i) (n - i)) (by simp [Act.eval, Act.put]) (by simp [Act.eval, Act.put]) (S _ r q 3 (G - (i + 1)) (n - i)) ?_)
 go_wp2;go_ret;exact ⟨rfl, rfl⟩
theorem iFa (w : World) (B : Nat) (v : Value) (n i J : Nat) (cs : List Value) (x : Value) (X : w.ownsRow B 33 1 v n cs) (U : BoxN w J 33 [x]) (E : ∀ u ∈ cs, u.oneCell' = true) (h2 : x.oneCell' = true)
 (ha : i <= n) (hn : n <= 1000000) (hB : B <= w.heap.size) (z : v.ownBlock ≠ some J) :
 Calls Tryz.prog 46 #[v, .int .i64 i, .slice (some ⟨J, 0, none⟩) 1 1] w fun e w' => ∃ v', e = .returned v' /\ w'.ownsRow B 33 1 v' (n + 1) (cs.take i ++ x :: cs.drop i) /\ w.grownBy w' v.ownBlock := by
 have K : ∀ j u, [x][j]? = some u -> w.cell? ⟨J, 0 + j, none⟩ = some u := fun j u hj => by rw [Nat.zero_add]; exact U.cell j hj
 have N : ∀ u ∈ [x], u.oneCell' = true := fun u hu => by simp at hu; subst hu; exact h2
 have R : cs.length = n := by have := X.1; omega
 rcases Nat.lt_or_ge i n with L | h9
 ·obtain ⟨g, c, l, rfl, h3, S, C, Q, hf, s⟩ := boo X (by omega)
  have hc : J ≠ g := fun e => z (by subst e; rfl)
  have I := Q;unfold maxLen at I;have M : ∀ j u, cs[j]? = some u -> w.cell? ⟨g, 0 + j, none⟩ = some u := fun j u hj => by
   rw [Nat.zero_add];refine S.cell j ?_;rw [<- s, List.getElem?_take] at hj;split at hj
   ·exact hj
   ·cases hj
  rcases Nat.lt_or_ge n c with O | h7
  ·refine (iFs g n c i J cs x w L O I hc R M (fun j hj => ?_) (fun j _ => S.frozen _) K E N 33 33 1 l.length (by unfold BoxN at U; simp [World.shape?, U]) (by unfold BoxN at S; simp [World.shape?, S]) (by omega) (U.frozen 0) (U.frozen 1)).mono ?_
   ·rw [S.cell (0 + j) (List.getElem?_eq_getElem (by omega))]; rfl
   ·rintro e w' ⟨rfl, rfl⟩
    obtain ⟨k, a⟩ := ie0 (x := x) s L (by omega : n + 1 <= l.length);have hd : (cs.drop i).length = n - i := by rw [List.length_drop, R]
    have h := BoxN.setCells (cs.drop i) (i + 1) S.drew (by omega);have f := BoxN.setCells [x] i h (by rw [k]; simp; omega);rw [Nat.zero_add, Nat.zero_add];refine ⟨_, rfl, oob f h3 O Q ?_ a, gsC [x] i (gsC (cs.drop i) (i + 1) (gdw (grl w (some g))))⟩;simp only [List.length_append, List.length_take, List.length_drop, List.length_singleton] at k ⊢;omega
  ·obtain rfl : c = n := by omega
   refine (iFg g c i J cs x w L hn R M K E N).mono ?_;rintro e w' ⟨rfl, rfl⟩;have h4 := grownCap_ge w (c + 1) c 33;have h5 := grownCap_le_maxLen w (c + 1) c 33 (by unfold maxLen; omega);generalize grownCap w (c + 1) c 33 = G at *;obtain ⟨V, hR⟩ := zex ((cs.take i).toArray ++ Builtin.zeroCells (Value.slice none 0 0).cells (c + 1 - i) ++ Builtin.zeroCells (Value.slice none 0 0).cells (G - (c + 1)) : Array Value);rw [<- hR];have A : V.toList.length = G := by
    rw [hR];simp [Builtin.zeroCells, Value.cells];omega
   have h6 : V.toList.take i = cs.take i := by
    rw [hR];simp only [Array.toList_append, List.append_assoc];rw [List.take_append_of_le_length (by rw [List.length_take]; omega), List.take_take, Nat.min_self]
   have kb : BoxN (w.alloc (.cells V 33)) w.heap.size 33 V.toList := BoxN.new _ _ _ _ rfl;obtain ⟨e0, k, a⟩ := igw (x := x) R h6 L (by omega);have hd : (cs.drop i).length = c - i := by rw [List.length_drop, R]
   have h := BoxN.setCells [x] i kb.drew (by rw [A]; simp; omega);have f := BoxN.setCells (cs.drop i) (i + 1) h.drew (by simp only [List.length_singleton]; rw [e0]; omega);simp only [List.length_singleton] at h f;have h8 : w.grownBy (((w.alloc (.cells V 33)).drew.setCells w.heap.size i [x]).drew.setCells w.heap.size (i + 1) (cs.drop i)) (some g) := by
    have m : (w.alloc (.cells V 33)).grownBy (((w.alloc (.cells V 33)).drew.setCells w.heap.size i [x]).drew.setCells w.heap.size (i + 1) (cs.drop i)) (some w.heap.size) := gsC _ _ (gdw (gsC _ _ (gdw (grl (w.alloc (.cells V 33)) _))));refine ⟨m.os, m.tape, m.output, Nat.le_trans (by simp) m.size, fun j hj hne' => ?_⟩;rw [m.block j (by simp; omega) (fun e => by cases e; omega)];exact hh0 _ _ _ hj
   exact ⟨_, rfl, oob f hB h4 h5 (by rw [k]; exact A) a, h8⟩
 ·obtain rfl : i = n := by omega
  obtain ⟨i0, t, r, o, q⟩ := info_parts (show ((Tryz.prog).info? 33).map (fun i => (i.zero, i.size, i.bytes)) = some (some (Value.slice none 0 0), 1, 24) by kernel_rfl);obtain ⟨p, c, rfl⟩ := oRs X;have HO := hid X;have HV := hid K;have HC := hid U;have hE : Hid (cs.take i ++ x :: cs.drop i = cs ++ [x]) := by unfold Hid; rw [List.take_of_length_le (by omega), List.drop_of_length_le (by omega)]
  have hh : c <= 9223372036854775807 := by
   rcases X.2 with ⟨H, h1⟩ | ⟨g, cap, b, H, hb, hg, C, Q, M, ht⟩
   ·cases H; omega
   ·cases H; exact Q
  have he : i <= c := by
   rcases X.2 with ⟨H, h1⟩ | ⟨g, cap, b, H, hb, hg, C, Q, M, ht⟩
   ·cases H; omega
   ·cases H; exact C
  clear X K U z R h9 ha E;rcases (Decidable.em (c = i)) with y | y
  ·subst y
   go_enter Tryz.func46, Tryz.ntmps46
   go_wp2_with (at_builtin; refine wpList_append_own _ rfl _ _ 43 rfl B 33 i0 (Value.slice none 0 0) 1 24 Tryz.underlying43 t r o q rfl (by decide) _ _ _ rfl HO.out ⟨J, 0, none⟩ 1 1 [x] rfl rfl (fun j u hu => by rw [Addr.add_lit]; exact HV.out j u hu) N (by unfold maxLen; omega) (by omega) hB ?_
                intro v7 w7 Z Y _)
   have D : w.grownBy w7 (Value.slice p c c).ownBlock := Y;rw [<- hE.out] at Z;have d := hid Z;clear Z Y;go_wp2_with fail;go_ret;exact ⟨_, rfl, d.out, D⟩
  ·go_enter Tryz.func46, Tryz.ntmps46
   go_wp2_with (at_builtin; refine wpList_append_own _ rfl _ _ 43 rfl B 33 i0 (Value.slice none 0 0) 1 24 Tryz.underlying43 t r o q rfl (by decide) _ _ _ rfl HO.out ⟨J, 0, none⟩ 1 1 [x] rfl rfl (fun j u hu => by rw [Addr.add_lit]; exact HV.out j u hu) N (by unfold maxLen; omega) (by omega) hB ?_
                intro v7 w7 Z Y _)
   have D : w.grownBy w7 (Value.slice p i c).ownBlock := Y;rw [<- hE.out] at Z;have d := hid Z;clear Z Y;go_wp2_with fail;go_ret;exact ⟨_, rfl, d.out, D⟩
def OwnD (w : World) (base : Nat) (v1 v2 v3 : Value) (B : List Rat) (U : List ByteArray) (S : List (List Rat)) : Prop :=
 FldV w base v1 B /\ w.ownsRow base 9 1 v2 U.length (U.map fun x => Value.string x) /\ FlsV 33 w base v3 S
structure DepN (w : World) (vp vt vb vu vs : Value) (P : List PtQ) (T : List Tri) (k : Nat) (B : List Rat) (U : List ByteArray) (S : List (List Rat)) : Prop where
 p : RdP w vp (strP P)
 t : RdT w vt T
 m : MeshOK P T k
 base : RdQ w vb B
 unit : RdS w vu U
 surf : RdF w vs S
 fl : ∀ F ∈ B :: S, F.length = P.length
 fs : ∀ F ∈ B :: S, ∀ q ∈ F, Sz k q
 ul : U.length = S.length + 1
 u60 : U.length <= 60
 ok : depE P T (B.map RS) U (S.map fun F => F.map RS) = 0
theorem DepN.below {w w' : World} {vp vt vb vu vs : Value} {P : List PtQ} {T : List Tri} {k : Nat} {B : List Rat} {U : List ByteArray} {S : List (List Rat)} (h : DepN w vp vt vb vu vs P T k B U S) (Z : Below w.heap.size w w') : DepN w' vp vt vb vu vs P T k B U S :=
 ⟨RdC.below h.p Z, RdC.below h.t Z, h.m, RdC.below h.base Z, RdC.below h.unit Z, h.surf.below Z, h.fl, h.fs, h.ul, h.u60, h.ok⟩
theorem DepN.toT {w : World} {vp vt vb vu vs : Value} {P : List PtQ} {T : List Tri} {k : Nat} {B : List Rat} {U : List ByteArray} {S : List (List Rat)} (h : DepN w vp vt vb vu vs P T k B U S) : DepT w vp vt vb vu vs P T k (B.map RS) U (S.map fun F => F.map RS) := by
 have Z : ∀ F ∈ B.map RS :: S.map (fun F => F.map RS), ∃ R ∈ B :: S, F = R.map RS := fun F hF => by
  rcases List.mem_cons.1 hF with rfl | X
  ·exact ⟨B, by simp, rfl⟩
  ·obtain ⟨R, Y, rfl⟩ := List.mem_map.1 X
   exact ⟨R, List.mem_cons_of_mem _ Y, rfl⟩
 refine ⟨h.p, h.t, fun _ => h.m, h.base.toS, h.unit, h.surf.toTx, fun F hF => ?_, fun F hF _ => ?_⟩
 ·obtain ⟨R, Y, rfl⟩ := Z F hF
  refine ⟨sok h.m.kpos h.m.klim2 (h.fs R Y), ?_⟩;rw [List.length_map, h.fl R Y];have := h.m.plen;omega
 ·obtain ⟨R, Y, rfl⟩ := Z F hF
  exact ⟨R, rfl, h.fl R Y, h.fs R Y⟩
theorem DepN.open {w : World} {vp vt vb vu vs : Value} {P : List PtQ} {T : List Tri} {k : Nat} {B : List Rat} {U : List ByteArray} {S : List (List Rat)} (h : DepN w vp vt vb vu vs P T k B U S) :
 ∃ Q Y N X R Z M V O cs, vp = .slice Q P.length Y /\ vt = .slice N T.length X /\ vb = .slice R P.length Z /\ vu = .slice M U.length V /\ vs = .slice O S.length cs := by
 obtain ⟨Q, Y, L, -, -, -⟩ := h.p.open;obtain ⟨N, X, J, -, -, -⟩ := h.t.open;obtain ⟨R, Z, K, -, -, -⟩ := h.base.open;obtain ⟨M, V, I, -, -, -⟩ := h.unit.open;obtain ⟨O, cs, H, -, -⟩ := h.surf.shape;rw [sPl] at L;rw [h.fl B (by simp)] at K;exact ⟨Q, Y, N, X, R, Z, M, V, O, cs, L, J, K, I, H⟩
def fldN (B : List Rat) (S : List (List Rat)) (n : Nat) : List Rat := (B :: S)[n]?.getD []
theorem fNm (B : List Rat) (S : List (List Rat)) {i : Nat} (h : i <= S.length) : fldN B S i ∈ B :: S := by
 unfold fldN;rw [List.getElem?_eq_getElem (by simp; omega)];exact List.getElem_mem _
theorem fTm (B : List Rat) (S : List (List Rat)) (n : Nat) : fldT (B.map RS) (S.map fun F => F.map RS) n = (fldN B S n).map RS := by
 unfold fldT fldN;rw [<- List.map_cons (f := fun F : List Rat => F.map RS), List.getElem?_map];cases (B :: S)[n]? <;> rfl
theorem DepN.surface {w : World} {vp vt vb vu vs : Value} {P : List PtQ} {T : List Tri} {k : Nat} {B : List Rat} {U : List ByteArray} {S : List (List Rat)} (h : DepN w vp vt vb vu vs P T k B U S) (n : Nat) (X : n <= S.length) :
 ∃ p c, RdQ w (.slice p P.length c) (fldN B S n) /\ ∀ w', Below w.heap.size w w' -> Calls Tryz.prog 48 #[.agg #[vb, vu, vs], .int .i64 (n : Int)] w' (Ret (fun r _ => r = .slice p P.length c) w') := by
 obtain ⟨p, c, Z, Y⟩ := sj0 w vb vu vs _ U _ h.toT.base h.unit h.toT.surf n (by rw [List.length_map]; exact X);rw [fTm, List.length_map, h.fl _ (fNm B S X)] at Z Y;exact ⟨p, c, rSt Z, Y⟩
theorem ih0 (q : Rat) (w : World) :
 Calls Tryz.prog 43 #[.string (RS q)] w (Ret (fun r _ => r = .bool (decide (q < 0))) w) := by
 by_cases h : q < 0
 ·have Y : Hid (∀ w, _) := fun w => rSn q h w
  rw [decide_eq_true h];generalize RS q = s at *;clear h;go_enter Tryz.func43, Tryz.ntmps43;go_wp2_with fail;refine zR (Y.out w) fun X Z => ?_;go_wp2_with fail;go_ret;exact ⟨_, rfl, rfl, Z⟩
 ·have Y : Hid (∀ w, _) := fun w => rc0 q h w
  rw [decide_eq_false h];generalize RS q = s at *;clear h;go_enter Tryz.func43, Tryz.ntmps43;go_wp2_with fail;refine (Y.out w).mono ?_;rintro e X ⟨_, rfl, ⟨z, rfl, V, U⟩, Z⟩;have S : decide (z < 0) = false := decide_eq_false (by omega);go_wp2_with fail;go_ret;exact ⟨_, rfl, rfl, Z⟩
def negF (F : List Rat) : Bool := F.any fun q => decide (q < 0)
theorem if0 (w : World) (v : Value) (l : List Rat) (L : RdQ w v l) (D : l.length <= 1000) :
 Calls Tryz.prog 81 #[v, .func (.func 43) #[] #[]] w (Ret (fun r _ => ∃ z : Int, r = .int .i64 z /\ decide (0 <= z) = negF l) w) := by
 obtain ⟨p, c, rfl, -, -, U⟩ := L.open;have J := hid U;clear L U;go_enter Tryz.func81, Tryz.ntmps81;go_wp2_with fail;go_loopw [5, 8] (fun _ t8 wr => ∃ i : Nat, t8 = .int .i64 i /\ i <= l.length /\ Hid (negF (l.take i) = false) /\ Below w.heap.size w wr) (fun _ t8 _ => l.length - (RowKit.intOf t8).toNat)
 case atStart => exact ⟨0, rfl, Nat.zero_le _, rfl, Below.refl _ _⟩
 case round =>
  obtain ⟨i, rfl, E, O, Y⟩ := hrel;rcases Nat.lt_or_ge i l.length with h | h
  ·obtain ⟨b, off, rfl, Q, M⟩ := J.out (List.ne_nil_of_length_pos (by omega))
   have I := zcq Y Q (M i h);have G : (i : Int) < (l.length : Int) := by omega
   have R : Hid (decide (l[i] < 0) = true -> negF l = true) := fun X => by
    unfold negF;rw [List.any_eq_true];exact ⟨l[i], List.getElem_mem _, X⟩
   have S : Hid (decide (l[i] < 0) = false -> negF (l.take (i + 1)) = false) := fun X => by
    have N := O.out;unfold negF at N ⊢;rw [List.take_succ_eq_append_getElem h, List.any_append, N];simp only [List.any_cons, List.any_nil, Bool.or_false, Bool.false_or];exact X
   have K : Hid (∀ w, _) := fun w => ih0 l[i] w;generalize decide (l[i] < 0) = nb at *;generalize l[i] = x at *;clear M;go_wp2_with fail;refine zR (K.out wr) fun w1 hb1 => ?_;have Z := zbt Y hb1;clear I hb1;cases nb
   ·have V := hid (S.out rfl)
    clear S R;go_wp2_with fail;go_roundw
    case rel => exact ⟨i + 1, by go_num, by omega, V, Z⟩
    case measure =>
     show l.length - ((i : Int) + 1).toNat < l.length - (i : Int).toNat;omega
   ·have V := hid (R.out rfl)
    clear S R;go_wp2_with fail;go_ret;exact ⟨_, rfl, ⟨_, rfl, by rw [V.out]; exact decide_eq_true (by omega)⟩, Z⟩
  ·have H : (l.length : Int) <= (i : Int) := by omega
   have V : Hid (negF l = false) := by have X := O.out; rw [List.take_of_length_le h] at X; exact X
   go_wp2_with fail;go_ret;exact ⟨_, rfl, ⟨_, rfl, by rw [V.out]; rfl⟩, Y⟩
theorem cNa (w : World) (v : Value) (l : List Rat) (Y : RdQ w v l) (V : l.length <= 1000) :
 Calls Tryz.prog 42 #[v, .func (.func 43) #[] #[]] w (Ret (fun r _ => r = .bool (negF l)) w) := by
 have X := hid (if0 w v l Y V);obtain ⟨p, c, rfl, -, -, -⟩ := Y.open;generalize negF l = nb at *;clear Y;go_enter Tryz.func42, Tryz.ntmps42;go_wp2_with fail;refine X.out.mono ?_;rintro e S ⟨_, rfl, ⟨z, rfl, U⟩, Z⟩;go_wp2_with fail;go_ret;exact ⟨_, rfl, rfl, Z⟩
def addL (F X : List Rat) : List Rat := List.zipWith (· + ·) F X
def insS (B : List Rat) (S : List (List Rat)) (X : List Rat) (n : Nat) : List (List Rat) := S.take n ++ ((B :: S).drop n).map fun F => addL F X
noncomputable def unitE (n : Nat) (U : List ByteArray) (nm : ByteArray) (nz : Int) (X : List ByteArray) : Int :=
 if nameQ nm = false then 8 else if hasS U nm = true then 9 else if nz < 0 \/ (U.length : Int) <= nz then 3 else if errF n X ≠ 0 then errF n X else if negF (X.map numT) = true then 6 else if U.length = 60 then 4 else 0
def rowUp (F X : List Rat) (k : Nat) : List Rat := (addL F X).take k ++ F.drop k
theorem rUz (F X : List Rat) : rowUp F X 0 = F := by simp [rowUp]
theorem rUa {F X : List Rat} (h : F.length = X.length) {k : Nat} (Z : F.length <= k) : rowUp F X k = addL F X := by
 unfold rowUp;rw [List.drop_of_length_le Z, List.append_nil, List.take_of_length_le (by unfold addL; rw [List.length_zipWith]; omega)]
theorem aLl {F X : List Rat} (h : F.length = X.length) : (addL F X).length = F.length := by unfold addL; rw [List.length_zipWith]; omega
theorem rUl {F X : List Rat} (h : F.length = X.length) (k : Nat) : (rowUp F X k).length = F.length := by
 unfold rowUp;rw [List.length_append, List.length_take, List.length_drop, aLl h]; omega
theorem rg0 {F X : List Rat} (h : F.length = X.length) {k : Nat} (Z : k < F.length) : (rowUp F X k)[k]? = some F[k] := by
 unfold rowUp;rw [List.getElem?_append_right (by rw [List.length_take]; omega), List.length_take, aLl h, Nat.min_eq_left (by omega), Nat.sub_self, List.getElem?_drop, Nat.add_zero, List.getElem?_eq_getElem Z]
theorem rUs {F X : List Rat} (h : F.length = X.length) {k : Nat} (Z : k < F.length) : (rowUp F X k).set k (F[k] + X[k]) = rowUp F X (k + 1) := by
 have Y : k < (addL F X).length := by rw [aLl h]; exact Z
 have e : (addL F X)[k] = F[k] + X[k] := by simp [addL]
 have V : ((addL F X).take k).length = k := by rw [List.length_take]; omega
 unfold rowUp;rw [List.take_succ_eq_append_getElem Y, e, List.set_append_right _ _ (by omega), V, Nat.sub_self];rw [<- List.getElem_cons_drop (h := Z), List.set_cons_zero, List.append_assoc];rfl
theorem FldV.set {w : World} {B g c : Nat} {F : List Rat} (h : FldV w B (.slice (some ⟨g, 0, none⟩) F.length c) F) {k : Nat} (q : Rat) (O : k < F.length) : FldV (w.setCell ⟨g, k, none⟩ (.string (RS q))) B (.slice (some ⟨g, 0, none⟩) F.length c) (F.set k q) := by
 obtain ⟨Q, c', l, R, U, S, Z, Y, X, V⟩ := boo h (by omega);injection R with e1 e2 e3
 injection e1 with e1
 injection e1 with e1
 subst e1 e3;unfold FldV;rw [List.length_set];refine oob (S.set k (.string (RS q))) U Z Y (by rw [List.length_set]; exact X) ?_;rw [List.take_set, V];unfold cFd;rw [List.map_set]
theorem FlsD.set {E : Nat} (L : 55 ≠ E) {w : World} {B g c i k : Nat} {v : Value} {S : List (List Rat)} {F : List Rat} {us : List Value} (M : us.length = S.length) (X : w.ownsRow B E 1 v S.length us)
 (V : ∀ (i : Nat) (u : Value) (F : List Rat), us[i]? = some u -> S[i]? = some F -> FldV w B u F) (U : ∀ (i j : Nat) (u N : Value), i ≠ j -> us[i]? = some u -> us[j]? = some N -> u.ownBlock ≠ N.ownBlock)
 (Y : us[i]? = some (.slice (some ⟨g, 0, none⟩) F.length c)) (Q : S[i]? = some F) (q : Rat) (K : k < F.length) : FlsD E (w.setCell ⟨g, k, none⟩ (.string (RS q))) B v (S.set i (F.set k q)) := by
 have R := V i _ F Y Q;have O : w.grownBy (w.setCell ⟨g, k, none⟩ (.string (RS q))) (some g) := gst (grl w _) k _;have Z : v.ownBlock = none \/ v.ownBlock ≠ some g := oat X R (Ne.symm L);refine ⟨us, by rw [List.length_set]; exact M, by rw [List.length_set]; exact World.ownsRow.kept X O Z, fun j u G a b => ?_, U⟩;by_cases hji : j = i
 ·subst hji
  rw [Y] at a;cases a;rw [List.getElem?_set_self (List.getElem?_eq_some_iff.1 Q).1] at b;cases b;have := R.set q K;unfold FldV at this ⊢;rw [List.length_set] at this ⊢;exact this
 ·rw [List.getElem?_set_ne (fun e => hji e.symm)] at b
  exact World.ownsRow.kept (V j u G a b) O (.inr (fun e => U j i u _ hji a Y e))
theorem FlsD.row {E : Nat} (K : 55 ≠ E) {w : World} {B : Nat} {v : Value} {S : List (List Rat)} (h : FlsD E w B v S) {i : Nat} {F : List Rat} (O : S[i]? = some F) (G : F ≠ []) :
 ∃ Y U g c, v = .slice (some ⟨Y, 0, none⟩) S.length U /\ S.length <= U /\ U <= maxLen /\ w.cell? ⟨Y, i, none⟩ = some (.slice (some ⟨g, 0, none⟩) F.length c) /\ F.length <= c /\ c <= maxLen /\ B <= g /\ g < w.heap.size /\ Y < w.heap.size /\ Y ≠ g /\
  (∀ k (R : k < F.length), w.cell? ⟨g, k, none⟩ = some (.string (RS F[k]))) /\ (∀ k, w.frozen? ⟨g, k, none⟩ = false) /\ (∃ l, BoxN w g 55 l) /\
  ∀ w', Below w.heap.size w w' -> ∀ k q, k < F.length -> FlsD E (w'.setCell ⟨g, k, none⟩ (.string (RS q))) B v (S.set i (F.set k q)) := by
 have A := (List.getElem?_eq_some_iff.1 O).1;obtain ⟨us, I, N, M, H⟩ := h;obtain ⟨Y, U, n, rfl, C, Z, y, x, m, t⟩ := boo N (by omega);have Q : us[i]? = some us[i] := List.getElem?_eq_getElem (by omega);have z := M i us[i] F Q O;have o := List.length_pos_iff.2 G;obtain ⟨g, c, l, J, D, V, s, r, j, p⟩ := boo z (by omega);have X : w.cell? ⟨Y, i, none⟩ = some (.slice (some ⟨g, 0, none⟩) F.length c) := by
  refine Z.cell i ?_;rw [<- J, <- Q, <- t, List.getElem?_take, if_pos A]
 rw [J] at Q;refine ⟨Y, U, g, c, rfl, y, x, X, s, r, D, V.lt, Z.lt, fun e => ?_, fun k R => ?_, fun k => V.frozen k, ⟨l, V⟩, fun w' hw k q R => ?_⟩
 ·subst e
  unfold BoxN at V Z;rw [V] at Z;injection Z with Z
  injection Z with _ h5
  exact K h5
 ·refine V.cell k ?_
  have L : (l.take F.length)[k]? = (cFd F)[k]? := by rw [p]
  rw [List.getElem?_take, if_pos R] at L;rw [L];unfold cFd;rw [List.getElem?_map, List.getElem?_eq_getElem R]; rfl
 ·exact FlsD.set K I (WRA N hw) (fun i u F a b => (M i u F a b).below hw) H Q O q R
theorem iat {α : Type} (l : List α) (x : α) {n : Nat} (Y : n <= l.length) (i : Nat) : (l.take n ++ x :: l.drop n)[i]? = if i < n then l[i]? else if i = n then some x else l[i - 1]? := by
 have Z : (l.take n).length = n := by rw [List.length_take]; omega
 by_cases h : i < n
 ·rw [if_pos h, List.getElem?_append_left (by omega), List.getElem?_take, if_pos h]
 ·rw [if_neg h, List.getElem?_append_right (by omega), Z]
  by_cases h2 : i = n
  ·rw [if_pos h2, h2, Nat.sub_self]; rfl
  ·rw [if_neg h2]
   obtain ⟨m, rfl⟩ : ∃ m, i = n + 1 + m := ⟨i - (n + 1), by omega⟩;rw [show n + 1 + m - n = m + 1 by omega, List.getElem?_cons_succ, List.getElem?_drop];congr 1;omega
theorem FlsD.one {w : World} {B : Nat} {us : List Value} {S : List (List Rat)} (X : us.length = S.length) (Z : ∀ (i : Nat) (u : Value) (F : List Rat), us[i]? = some u -> S[i]? = some F -> FldV w B u F) : ∀ u ∈ us, u.oneCell' = true := fun u hu => by
 obtain ⟨i, Y, rfl⟩ := List.getElem_of_mem hu;obtain ⟨p, c, e⟩ := (Z i us[i] S[i] (List.getElem?_eq_getElem Y) (List.getElem?_eq_getElem (by omega))).shape;rw [e]; rfl
theorem FlsD.ins {E : Nat} {w : World} {B M n : Nat} {v' u : Value} {S : List (List Rat)} {us : List Value} {F : List Rat} (t : us.length = S.length) (v : n <= S.length)
 (N : ∀ (i : Nat) (u : Value) (F : List Rat), us[i]? = some u -> S[i]? = some F -> FldV w B u F) (X : ∀ (i j : Nat) (u J : Value), i ≠ j -> us[i]? = some u -> us[j]? = some J -> u.ownBlock ≠ J.ownBlock)
 (D : ∀ (i : Nat) (u : Value) (b : Nat), us[i]? = some u -> u.ownBlock = some b -> b < M)
 (Y : w.ownsRow B E 1 v' (S.length + 1) (us.take n ++ u :: us.drop n)) (K : FldV w M u F) (O : F ≠ []) (Q : B <= M) : FlsD E w B v' (S.take n ++ F :: S.drop n) := by
 have Z : ∃ b, u.ownBlock = some b /\ M <= b := by
  obtain ⟨H, V⟩ := K;rcases V with ⟨rfl, U⟩ | ⟨g, cap, I, rfl, A, _⟩
  ·exact absurd (List.length_eq_zero_iff.1 U) O
  ·exact ⟨g, rfl, A⟩
 obtain ⟨b, Z, C⟩ := Z;have L : (S.take n ++ F :: S.drop n).length = S.length + 1 := by
  rw [List.length_append, List.length_take, List.length_cons, List.length_drop]; omega
 refine ⟨us.take n ++ u :: us.drop n, ?_, by rw [L]; exact Y, fun i x G a c => ?_, fun i j x y hij a c => ?_⟩
 ·rw [L, List.length_append, List.length_take, List.length_cons, List.length_drop]; omega
 ·rw [iat us u (by omega)] at a
  rw [iat S F v] at c;split at a <;> rename_i hh
  ·rw [if_pos hh] at c
   exact N i x G a c
  ·rw [if_neg hh] at c
   split at a <;> rename_i hh2
   ·rw [if_pos hh2] at c
    cases a; cases c;exact K.base Q
   ·rw [if_neg hh2] at c
    exact N _ x G a c
 ·rw [iat us u (by omega)] at a c
  have R : ∀ {k : Nat} {z : Value}, us[k]? = some z -> z.ownBlock ≠ u.ownBlock := fun hz e => by
   have := D _ _ b hz (e.trans Z);omega
  split at a <;> rename_i H
  ·split at c <;> rename_i V
   ·exact X i j x y hij a c
   ·split at c <;> rename_i U
    ·cases c; exact R a
    ·exact X i (j - 1) x y (by omega) a c
  ·split at a <;> rename_i h5'
   ·cases a
    split at c <;> rename_i V
    ·exact fun e => R c e.symm
    ·split at c <;> rename_i U
     ·omega
     ·exact fun e => R c e.symm
   ·split at c <;> rename_i V
    ·exact X (i - 1) j x y (by omega) a c
    ·split at c <;> rename_i U
     ·cases c; exact R a
     ·exact X (i - 1) (j - 1) x y (by omega) a c
def midR (Z : List (List Rat)) (X : List Rat) (n i k : Nat) : List (List Rat) := Z.mapIdx fun j F => if n <= j /\ j < i then addL F X else if j = i then rowUp F X k else F
theorem mRa (Z : List (List Rat)) (X : List Rat) (n i k j : Nat) : (midR Z X n i k)[j]? = (Z[j]?).map fun F => if n <= j /\ j < i then addL F X else if j = i then rowUp F X k else F := by
 unfold midR;rw [List.getElem?_mapIdx]
theorem mRl (Z : List (List Rat)) (X : List Rat) (n i k : Nat) : (midR Z X n i k).length = Z.length := by unfold midR; rw [List.length_mapIdx]
theorem mRs (Z : List (List Rat)) (X : List Rat) (n : Nat) : midR Z X n n 0 = Z := by
 refine List.ext_getElem? fun j => ?_;rw [mRa];cases Z[j]? with
 | none => rfl
 | some F =>
   simp only [Option.map_some];rw [if_neg (by omega)];split
   ·rw [rUz]
   ·rfl
theorem mRh {Z : List (List Rat)} {X : List Rat} {n i k : Nat} {F : List Rat} (h : Z[i]? = some F) : (midR Z X n i k)[i]? = some (rowUp F X k) := by
 rw [mRa, h, Option.map_some, if_neg (by omega), if_pos rfl]
theorem mf0 {Z : List (List Rat)} {X : List Rat} {n i k : Nat} {F : List Rat} (h : Z[i]? = some F) (Y : F.length = X.length) (V : k < F.length) : (midR Z X n i k).set i ((rowUp F X k).set k (F[k] + X[k])) = midR Z X n i (k + 1) := by
 refine List.ext_getElem? fun j => ?_;by_cases hj : j = i
 ·subst hj
  rw [List.getElem?_set_self (by rw [mRl]; exact (List.getElem?_eq_some_iff.1 h).1), mRh h, rUs Y V]
 ·rw [List.getElem?_set_ne (fun e => hj e.symm), mRa, mRa]
  cases Z[j]? with
  | none => rfl
  | some G =>
    simp only [Option.map_some];rw [if_neg hj, if_neg hj]
theorem mRn {Z : List (List Rat)} {X : List Rat} {n i : Nat} (U : n <= i) (Y : ∀ F ∈ Z, F.length = X.length) : midR Z X n i X.length = midR Z X n (i + 1) 0 := by
 refine List.ext_getElem? fun j => ?_;rw [mRa, mRa];cases hz : Z[j]? with
 | none => rfl
 | some F =>
   have V := Y F (List.mem_of_getElem? hz);simp only [Option.map_some];congr 1;by_cases h1 : n <= j /\ j < i
   ·rw [if_pos h1, if_pos (by omega)]
   ·rw [if_neg h1]
    by_cases h2 : j = i
    ·rw [if_pos h2, if_pos (by omega), rUa V (by omega)]
    ·rw [if_neg h2, if_neg (by omega)]
     split
     ·rw [rUz]
     ·rfl
theorem mRe {B : List Rat} {S : List (List Rat)} {X : List Rat} {n : Nat} (V : n <= S.length) : midR (S.take n ++ fldN B S n :: S.drop n) X n (S.length + 1) 0 = insS B S X n := by
 have e : (B :: S).drop n = fldN B S n :: S.drop n := by
  have Z : n < (B :: S).length := by simp; omega
  rw [<- List.getElem_cons_drop (h := Z)];congr 1;unfold fldN;rw [List.getElem?_eq_getElem Z]; rfl
 unfold insS;rw [e];refine List.ext_getElem? fun j => ?_;have Y : (S.take n).length = n := by rw [List.length_take]; omega
 rw [mRa];by_cases h : j < n
 ·rw [List.getElem?_append_left (by omega), List.getElem?_append_left (by omega)]
  cases (S.take n)[j]? with
  | none => rfl
  | some F =>
    simp only [Option.map_some];rw [if_neg (by omega), if_neg (by omega)]
 ·rw [List.getElem?_append_right (by omega), List.getElem?_append_right (by omega), List.getElem?_map]
  cases hz : (fldN B S n :: S.drop n)[j - (S.take n).length]? with
  | none => rfl
  | some F =>
    have := (List.getElem?_eq_some_iff.1 hz).1;simp only [List.length_cons, List.length_drop] at this;simp only [Option.map_some];rw [if_pos (by omega)]
end Go.Proofs.YtmcbeajdloaliaaGreatDoor
