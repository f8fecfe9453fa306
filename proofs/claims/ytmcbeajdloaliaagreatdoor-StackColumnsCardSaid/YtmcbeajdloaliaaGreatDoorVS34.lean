import Derived.Test.YtmcbeajdloaliaaGreatDoorVS32
import Derived.Shelf.Spec.SlicesInsertGrow
/- slices.Insert of one value into a row of the call's own, at texts and at Append of a row that may be nil Layers in memory column.layer, names of any texts. column.Check, Units of any texts. A deposit of numbers -/
set_option maxHeartbeats 4000000
set_option maxRecDepth 100000
namespace Go.Proofs.YtmcbeajdloaliaaGreatDoor
open Go.RowKit Go.Lib Go.Shelf
theorem BoxN.setCells {b t : Nat} : ∀ (Z : List Value) (o : Nat) {w : World} {l : List Value}, BoxN w b t l -> o + Z.length <= l.length -> BoxN (w.setCells b o Z) b t (l.take o ++ Z ++ l.drop (o + Z.length))
 | [], o, w, l, h, _ => by simpa [World.setCells] using h
 | v :: r, o, w, l, h, hl => by
   have U : o + (r.length + 1) <= l.length := hl;have Y := BoxN.setCells r (o + 1) (h.set o v) (by rw [List.length_set]; omega);rw [World.setCells];have e : (l.set o v).take (o + 1) ++ r ++ (l.set o v).drop (o + 1 + r.length) = l.take o ++ (v :: r) ++ l.drop (o + (v :: r).length) := by
    have X : (l.set o v).take (o + 1) = l.take o ++ [v] := by
     rw [List.take_succ_eq_append_getElem (by rw [List.length_set]; omega), List.getElem_set_self];congr 1;rw [List.take_set_of_le (Nat.le_refl _)]
    have V : (l.set o v).drop (o + 1 + r.length) = l.drop (o + (v :: r).length) := by
     rw [List.drop_set_of_lt (by omega)];congr 1;simp; omega
    rw [X, V];simp
   rw [e] at Y;exact Y
theorem gsC {W : World} {g : Nat} : ∀ (Z : List Value) (o : Nat) {w : World}, W.grownBy w (some g) -> W.grownBy (w.setCells g o Z) (some g)
 | [], _, _, h => h
 | v :: r, o, _, h => gsC r (o + 1) (gst h o v)
theorem gdw {W w : World} {M : Option Nat} (h : W.grownBy w M) : W.grownBy w.drew M := ⟨h.os, h.tape, h.output, h.size, h.block⟩
theorem oob {w : World} {B g e n c : Nat} {l : List Value} {cs : List Value} (h : BoxN w g e l) (Y : B <= g) (S : n <= c) (U : c <= maxLen) (V : l.length = c) (Z : l.take n = cs) : w.ownsRow B e 1 (.slice (some ⟨g, 0, none⟩) n c) n cs := by
 have X : cs.length = n := by rw [<- Z, List.length_take]; omega
 exact ⟨by omega, .inr ⟨g, c, l.toArray, rfl, Y, h, S, U, by simpa using V, by simpa using Z⟩⟩
theorem boo {w : World} {B e n : Nat} {v : Value} {cs : List Value} (h : w.ownsRow B e 1 v n cs) (M : 0 < n) : ∃ g c l, v = .slice (some ⟨g, 0, none⟩) n c /\ B <= g /\ BoxN w g e l /\ n <= c /\ c <= maxLen /\ l.length = c /\ l.take n = cs := by
 obtain ⟨N, U⟩ := h;rcases U with ⟨rfl, O⟩ | ⟨g, cap, Z, rfl, S, R, V, Y, X, Q⟩
 ·omega
 ·exact ⟨g, cap, Z.toList, rfl, S, by unfold BoxN; simpa using R, V, Y, by simpa using X, by simpa using Q⟩
theorem ie0 {l cs : List Value} {x : Value} {n i : Nat} (X : l.take n = cs) (O : i < n) (N : n + 1 <= l.length) :
 let Z := l.take (i + 1) ++ cs.drop i ++ l.drop (i + 1 + (cs.drop i).length)
 Z.length = l.length /\ (Z.take i ++ [x] ++ Z.drop (i + 1)).take (n + 1) = cs.take i ++ x :: cs.drop i := by
 have Y : cs.length = n := by rw [<- X, List.length_take]; omega
 have Q : (cs.drop i).length = n - i := by rw [List.length_drop, Y]
 intro Z;have R : Z.length = l.length := by
  simp only [Z, List.length_append, List.length_take, Q, List.length_drop]; omega
 refine ⟨R, ?_⟩;have V : Z.take i = cs.take i := by
  simp only [Z];rw [List.append_assoc, List.take_append_of_le_length (by rw [List.length_take]; omega), List.take_take, <- X, List.take_take];congr 1;omega
 have U : (Z.drop (i + 1)).take (n - i) = cs.drop i := by
  simp only [Z];rw [List.append_assoc, List.drop_append_of_le_length (by rw [List.length_take]; omega), List.drop_of_length_le (by rw [List.length_take]; omega), List.nil_append, List.take_append_of_le_length (by omega), List.take_of_length_le (by omega)]
 have S : (cs.take i).length = i := by rw [List.length_take]; omega
 rw [V, List.append_assoc, List.take_append, S, List.take_of_length_le (by omega), List.singleton_append];congr 1;rw [show n + 1 - i = (n - i) + 1 by omega, List.take_succ_cons, U]
theorem igw {l0 cs : List Value} {x : Value} {n i : Nat} (Y : cs.length = n) (R : l0.take i = cs.take i) (Q : i < n) (O : n + 1 <= l0.length) :
 let Z := l0.take i ++ [x] ++ l0.drop (i + 1)
 Z.length = l0.length /\ (Z.take (i + 1) ++ cs.drop i ++ Z.drop (i + 1 + (cs.drop i).length)).length = l0.length /\ (Z.take (i + 1) ++ cs.drop i ++ Z.drop (i + 1 + (cs.drop i).length)).take (n + 1) = cs.take i ++ x :: cs.drop i := by
 have U : (cs.drop i).length = n - i := by rw [List.length_drop, Y]
 intro Z;have V : Z.length = l0.length := by
  simp only [Z, List.length_append, List.length_take, List.length_drop, List.length_singleton]; omega
 refine ⟨V, by simp only [List.length_append, List.length_take, List.length_drop, V]; omega, ?_⟩;have X : (cs.take i).length = i := by rw [List.length_take]; omega
 have S : Z.take (i + 1) = cs.take i ++ [x] := by
  simp only [Z];rw [R, List.take_append_of_le_length (by simp; omega), List.take_of_length_le (by simp; omega)]
 rw [S, List.take_append_of_le_length (by simp only [List.length_append, X, U, List.length_singleton]; omega), List.take_of_length_le (by simp only [List.length_append, X, U, List.length_singleton]; omega)];simp
theorem iSs (b n c i X : Nat) (cs : List Value) (x : Value) (w : World) (hi : i < n) (C : n + 1 <= c) (r : c <= 9223372036854775807) (O : X ≠ b)
 (K : cs.length = n) (J : ∀ j v, cs[j]? = some v -> w.cell? ⟨b, 0 + j, none⟩ = some v) (U : ∀ j, j < n + 1 -> (w.cell? ⟨b, 0 + j, none⟩).isSome = true) (S : ∀ j, j < n + 1 -> w.frozen? ⟨b, 0 + j, none⟩ = false)
 (z : ∀ j v, [x][j]? = some v -> w.cell? ⟨X, 0 + j, none⟩ = some v) (M : ∀ v ∈ cs, v.oneCell' = true) (L : ∀ v ∈ [x], v.oneCell' = true)
 (q p : TypeId) (y t : Nat) (B : w.shape? X = some (q, y)) (A : w.shape? b = some (p, t)) (E : t ≠ 0) (H : w.frozen? ⟨X, 0, none⟩ = false) (G : w.frozen? ⟨X, y, none⟩ = false) :
 Calls Tryz.prog 45 #[.slice (some ⟨b, 0, none⟩) n c, .int .i64 i, .slice (some ⟨X, 0, none⟩) 1 1] w fun e w' =>
  e = .returned (.slice (some ⟨b, 0, none⟩) (n + 1) c) /\ w' = (w.drew.setCells b (0 + (i + 1)) (cs.drop i)).setCells b (0 + i) [x] := by
 have s : (Tryz.prog).follows .mixedOrders = true := by kernel_rfl
 have h0 : ¬ ((i : Int) = (n : Int)) := by omega
 have Q : ((Tryz.prog).info? 9).map (·.size) = some 1 := by kernel_rfl
 have D : ∀ lb cb, (callFunc 83 #[.slice (some ⟨X, 0, none⟩) 1 1, .slice (some ⟨b, i + 1, none⟩) lb cb]).run Tryz.prog w = .ok (.value (.bool false)) w := fun lb cb => by
  rw [run_callFunc_extern Tryz.func83 (by kernel_rfl) (by kernel_rfl) (by kernel_rfl) (e := Extern.SlicesOverlaps.overlaps #[42, 42] #[4]) (by kernel_rfl),
   Lib.run_overlaps_apart w 42 4 9 Tryz.underlying42 1 Tryz.sizeOf9 ⟨X, 0, none⟩ ⟨b, i + 1, none⟩ 1 1 lb cb O q p y t B A E H G]
  rfl
 have I : (cs.drop i).length = n - i := by rw [List.length_drop, K]
 have a : IntKind.i64.wrap ((i : Int) + 1) = (i : Int) + 1 := by rw [IntKind.wrap_i64]; omega
 have o : (0 : Int) <= (i : Int) + 1 := by omega
 have f : i <= n := by omega
 have d : ((i : Int) + 1).toNat = i + 1 := by omega
 have m : ¬ (c = i + 1) := by omega
 have l : (i : Int) <= (n : Int) + 1 := by omega
 have g : ¬ (c = i) := by omega
 have Y : ∀ ty dc sc, (Builtin.copy_ #[42, 42] ty #[.slice (some ⟨b, 0 + (i + 1), none⟩) (n + 1 - (i + 1)) dc, .slice (some ⟨b, 0 + i, none⟩) (n + 1 - i) sc]).run Tryz.prog w.drew = .ok (goInt (cs.drop i).length) (w.drew.setCells b (0 + (i + 1)) (cs.drop i)) := fun ty dc sc =>
  run_copy_cells w.drew _ _ ty 9 b (0 + (i + 1)) (n + 1 - (i + 1)) dc ⟨b, 0 + i, none⟩ (n + 1 - i) sc (cs.drop i) Tryz.underlying42 Q (by rw [I]; simp only [Nat.min_def]; split <;> omega)
   (fun j v hj => by rw [Addr.add_lit, Nat.add_assoc]; exact J (i + j) v (by rwa [List.getElem?_drop] at hj))
   (fun j hj => by rw [Nat.add_assoc]; exact U _ (by omega)) (fun j hj => by rw [Nat.add_assoc]; exact S _ (by omega)) (fun v hv => M v (List.mem_of_mem_drop hv))
 obtain ⟨N, Z⟩ := zex (w.drew.setCells b (0 + (i + 1)) (cs.drop i));have R : ∀ k, k < n + 1 -> (N.cell? ⟨b, 0 + k, none⟩).isSome = true := fun k hk => by
  rw [Z];exact Go.Proofs.isSome_setCells b _ _ _ (fun j hj => by rw [Nat.add_assoc]; exact U _ (by omega)) _ (U k hk)
 have V : ∀ (W : World), (∀ x, W.cell? x = N.cell? x) -> (∀ x, W.frozen? x = N.frozen? x) -> ∀ ty dc, (Builtin.copy_ #[42, 42] ty #[.slice (some ⟨b, 0 + i, none⟩) (n + 1 - i) dc, .slice (some ⟨X, 0, none⟩) 1 1]).run Tryz.prog W = .ok (goInt [x].length) (W.setCells b (0 + i) [x]) := fun W hWc hWf ty dc =>
  run_copy_cells W _ _ ty 9 b (0 + i) (n + 1 - i) dc ⟨X, 0, none⟩ 1 1 [x] Tryz.underlying42 Q (by simp only [Nat.min_def, List.length_singleton]; split <;> omega)
   (fun j v hj => by
     rw [Addr.add_lit, hWc, Z, World.cell?_setCells_out b _ _ _ _ (fun h _ => absurd h O)];exact z j v hj)
   (fun j hj => by rw [hWc, Nat.add_assoc]; exact R _ (by simp at hj; omega)) (fun j hj => by rw [hWf, Z, World.frozen?_setCells, Nat.add_assoc]; exact S _ (by simp at hj; omega)) L
 rw [<- Z] at Y;simp only [Nat.zero_add] at Y V;go_enter Tryz.func45, Tryz.ntmps45;go_wp2_with (simp only [D])
 go_region_law_o (refine step_copy_runI rfl _ _ 42 42 rfl (.slice (some ⟨b, i + 1, none⟩) (n + 1 - (i + 1)) (c - (i + 1))) (.slice (some ⟨b, i, none⟩) (n + 1 - i) (c - i)) (by simp [Act.eval, Act.put]) (by simp [Act.eval, Act.put]) (Y _ _ _) ?_)
 go_wp2_with (at_builtin; refine wpList_copy_runI _ rfl _ _ 42 42 rfl _ _ rfl rfl (V _ (fun _ => rfl) (fun _ => rfl) _ _) ?_);go_ret;refine ⟨rfl, ?_⟩;first | simp only [Nat.zero_add] | (rw [Z]; simp only [Nat.zero_add])
theorem ik0 (b n i Q : Nat) (cs : List Value) (x : Value) (w : World) (hi : i < n) (h3 : n <= 1000000)
 (f : cs.length = n) (O : ∀ j v, cs[j]? = some v -> w.cell? ⟨b, 0 + j, none⟩ = some v)
 (H : ∀ j v, [x][j]? = some v -> w.cell? ⟨Q, 0 + j, none⟩ = some v) (B : ∀ v ∈ cs, v.oneCell' = true) (A : ∀ v ∈ [x], v.oneCell' = true) :
 Calls Tryz.prog 45 #[.slice (some ⟨b, 0, none⟩) n n, .int .i64 i, .slice (some ⟨Q, 0, none⟩) 1 1] w fun e w' =>
  e = .returned (.slice (some ⟨w.heap.size, 0, none⟩) (n + 1) (grownCap w (n + 1) n 9)) /\
  w' = (((w.alloc (.cells ((cs.take i).toArray ++ Builtin.zeroCells (Value.string ⟨#[]⟩).cells (n + 1 - i) ++ Builtin.zeroCells (Value.string ⟨#[]⟩).cells (grownCap w (n + 1) n 9 - (n + 1))) 9)).drew.setCells w.heap.size i [x]).drew).setCells w.heap.size (i + 1) (cs.drop i) := by
 obtain ⟨i0, K, a, D, E⟩ := info_parts (show ((Tryz.prog).info? 9).map (fun i => (i.zero, i.size, i.bytes)) = some (some (Value.string ⟨#[]⟩), 1, 16) by kernel_rfl);have h0 : (Tryz.prog).follows .mixedOrders = true := by kernel_rfl
 have hc : ¬ ((i : Int) = (n : Int)) := by omega
 have hd : (n : Int) < (n : Int) + 1 := by omega
 have I : ((Tryz.prog).info? 9).map (·.size) = some 1 := by rw [K]; simp [D]
 have g : b < w.heap.size := block_lt_of_cell (O 0 _ (List.getElem?_eq_getElem (by omega)));have c : Q < w.heap.size := block_lt_of_cell (H 0 _ (List.getElem?_eq_getElem (by simp)));have J : (n : Int) + 1 - (i : Int) = ((n + 1 - i : Nat) : Int) := by omega
 have N : i + (n + 1 - i) = n + 1 := by omega
 have R : (Builtin.firstCells i0.size i (.slice (some ⟨b, 0, none⟩) i n)).run Tryz.prog w.drew = .ok (cs.take i).toArray w.drew := by
  rw [D];exact run_firstCells_some w.drew 1 i ⟨b, 0, none⟩ i n (cs.take i) (by rw [List.length_take]; omega) (fun j v hj => by
   rw [Addr.add_lit];rw [List.getElem?_take] at hj;split at hj
   ·exact O j v hj
   ·cases hj)
 have V : ∀ ty, (Builtin.append_ #[42, 3] ty #[.slice (some ⟨b, 0, none⟩) i n, .int .i64 ((n : Int) + 1 - (i : Int))]).run Tryz.prog w =
  .ok (.slice (some ⟨w.heap.size, 0, none⟩) (n + 1) (grownCap w (n + 1) n 9)) (w.drew.alloc (.cells ((cs.take i).toArray ++ Builtin.zeroCells (Value.string ⟨#[]⟩).cells (n + 1 - i) ++ Builtin.zeroCells (Value.string ⟨#[]⟩).cells (grownCap w (n + 1) n 9 - (n + 1))) 9)) := fun ty => by
  have h := Lib.run_append_grow_zeros w 42 3 ty 9 i0 _ .i64 .i64 Tryz.underlying42 Tryz.underlying3 K a (some ⟨b, 0, none⟩) i n (cs.take i) R (n + 1 - i) (by omega) (by omega) (by omega) (by omega) (by rw [E]; omega) (by rw [E, N]; exact growslice_fits (by omega) (by omega));rw [N] at h;rw [J];exact h
 obtain ⟨G, C⟩ := zex (grownCap w (n + 1) n 9);obtain ⟨Z, X⟩ := zex ((cs.take i).toArray ++ Builtin.zeroCells (Value.string ⟨#[]⟩).cells (n + 1 - i) ++ Builtin.zeroCells (Value.string ⟨#[]⟩).cells (G - (n + 1)) : Array Value);rw [<- C] at V ⊢;rw [<- X] at V ⊢;have l : n + 1 <= Z.size := by
  rw [X];simp [Builtin.zeroCells, Value.cells];omega
 obtain ⟨U, Y⟩ := zex (w.drew.alloc (.cells Z 9));rw [<- Y] at V;have p : ∀ j, j < n + 1 -> (U.cell? ⟨w.heap.size, j, none⟩).isSome = true := fun j hj => by
  rw [Y, World.cell?_alloc_at (w := w.drew) Z _ w.heap.size j rfl, Array.getElem?_eq_getElem (by omega)]; rfl
 have M : ∀ j, U.frozen? ⟨w.heap.size, j, none⟩ = false := fun j => by rw [Y]; exact World.frozen?_alloc_at (w := w.drew) Z _ w.heap.size j rfl
 have o : ∀ j v, w.cell? ⟨b, j, none⟩ = some v -> U.cell? ⟨b, j, none⟩ = some v := fun j v h => by rw [Y, World.cell?_alloc_past (w := w.drew) _ b j g]; exact h
 have m : ∀ j v, w.cell? ⟨Q, j, none⟩ = some v -> U.cell? ⟨Q, j, none⟩ = some v := fun j v h => by rw [Y, World.cell?_alloc_past (w := w.drew) _ Q j c]; exact h
 have L : ∀ (W : World), (∀ x, W.cell? x = U.cell? x) -> (∀ x, W.frozen? x = U.frozen? x) -> ∀ ty dc, (Builtin.copy_ #[42, 42] ty #[.slice (some ⟨w.heap.size, i, none⟩) (n + 1 - i) dc, .slice (some ⟨Q, 0, none⟩) 1 1]).run Tryz.prog W = .ok (goInt [x].length) (W.setCells w.heap.size i [x]) := fun W hWc hWf ty dc =>
  run_copy_cells W _ _ ty 9 w.heap.size i (n + 1 - i) dc ⟨Q, 0, none⟩ 1 1 [x] Tryz.underlying42 I (by simp only [Nat.min_def, List.length_singleton]; split <;> omega)
   (fun j v hj => by rw [Addr.add_lit, hWc]; exact m _ v (H j v hj))
   (fun j hj => by rw [hWc]; exact p _ (by simp at hj; omega)) (fun j hj => by rw [hWf]; exact M _) A
 have h5 : n + 1 <= G := by rw [C]; exact grownCap_ge w _ _ _
 have h1 : G <= 9223372036854775807 := by
  have := grownCap_le_maxLen w (n + 1) n 9 (by unfold maxLen; omega);rw [<- C] at this;unfold maxLen at this;omega
 have h4 : ¬ (G = i) := by omega
 have h2 : ¬ (G = i + 1) := by omega
 have h8 : ¬ (n = i) := by omega
 have k : b ≠ w.heap.size := by omega
 have d : (cs.drop i).length = n - i := by rw [List.length_drop, f]
 have S : ∀ (W : World), (∀ y, W.cell? y = (U.setCells w.heap.size i [x]).cell? y) -> (∀ y, W.frozen? y = (U.setCells w.heap.size i [x]).frozen? y) -> ∀ ty dc sc, (Builtin.copy_ #[42, 42] ty #[.slice (some ⟨w.heap.size, i + 1, none⟩) (n + 1 - (i + 1)) dc, .slice (some ⟨b, i, none⟩) (n - i) sc]).run Tryz.prog W = .ok (goInt (cs.drop i).length) (W.setCells w.heap.size (i + 1) (cs.drop i)) := fun W hWc hWf ty dc sc =>
  run_copy_cells W _ _ ty 9 w.heap.size (i + 1) (n + 1 - (i + 1)) dc ⟨b, i, none⟩ (n - i) sc (cs.drop i) Tryz.underlying42 I (by rw [d]; simp only [Nat.min_def]; split <;> omega)
   (fun j v hj => by
     rw [Addr.add_lit, hWc, World.cell?_setCells_out _ _ _ _ _ (fun h _ => absurd h k)];have h := O (i + j) v (by rwa [List.getElem?_drop] at hj);rw [Nat.zero_add] at h;exact o _ v h)
   (fun j hj => by rw [hWc]; exact Go.Proofs.isSome_setCells _ _ _ _ (fun t ht => p _ (by simp at ht; omega)) _ (p _ (by omega)))
   (fun j hj => by rw [hWf, World.frozen?_setCells]; exact M _) (fun v hv => B v (List.mem_of_mem_drop hv))
 subst Y;have z : ∀ x, ((w.alloc (.cells Z 9)).drew).cell? x = (w.drew.alloc (.cells Z 9)).cell? x := fun x => rfl;have s : ∀ x, ((w.alloc (.cells Z 9)).drew).frozen? x = (w.drew.alloc (.cells Z 9)).frozen? x := fun x => rfl;have r : ∀ y, (((w.alloc (.cells Z 9)).drew.setCells w.heap.size i [x]).drew).cell? y = ((w.drew.alloc (.cells Z 9)).setCells w.heap.size i [x]).cell? y := fun y => rfl;have q : ∀ y, (((w.alloc (.cells Z 9)).drew.setCells w.heap.size i [x]).drew).frozen? y = ((w.drew.alloc (.cells Z 9)).setCells w.heap.size i [x]).frozen? y := fun y => rfl;have hb : IntKind.i64.wrap ((i : Int) + 1) = (i : Int) + 1 := by rw [IntKind.wrap_i64]; omega
 have h6 : (0 : Int) <= (i : Int) + 1 := by omega
 have h9 : i <= n := by omega
 have ha : ((i : Int) + 1).toNat = i + 1 := by omega
 have h7 : (i : Int) <= (n : Int) := by omega
 clear J N R X C l;go_enter Tryz.func45, Tryz.ntmps45;go_wp2_with (first
  | (at_builtin; refine Lib.wpList_append_run _ rfl _ _ _ _ rfl _ _ rfl rfl _ _ (V _) ?_)
  | (at_builtin; refine wpList_copy_runI _ rfl _ _ 42 42 rfl _ _ rfl rfl (L _ z s _ _) ?_)
  | (at_builtin; refine wpList_copy_runI _ rfl _ _ 42 42 rfl _ _ rfl rfl (S _ (fun _ => rfl) (fun _ => rfl) _ _ _) ?_))
 go_region_law_o (refine step_copy_runI rfl _ _ 42 42 rfl (.slice (some ⟨w.heap.size, i + 1, none⟩) (n + 1 - (i + 1)) (G - (i + 1))) (.slice (some ⟨b, i, none⟩) (n - i) (n - i)) (by simp [Act.eval, Act.put]) (by simp [Act.eval, Act.put]) (S _ r q 3 (G - (i + 1)) (n - i)) ?_)
 go_wp2;go_ret;exact ⟨rfl, rfl⟩
theorem in0 (w : World) (B : Nat) (v : Value) (n i J : Nat) (cs : List Value) (x : Value) (X : w.ownsRow B 9 1 v n cs) (U : BoxN w J 9 [x]) (E : ∀ u ∈ cs, u.oneCell' = true) (h2 : x.oneCell' = true)
 (ha : i <= n) (hn : n <= 1000000) (hB : B <= w.heap.size) (z : v.ownBlock ≠ some J) :
 Calls Tryz.prog 45 #[v, .int .i64 i, .slice (some ⟨J, 0, none⟩) 1 1] w fun e w' => ∃ v', e = .returned v' /\ w'.ownsRow B 9 1 v' (n + 1) (cs.take i ++ x :: cs.drop i) /\ w.grownBy w' v.ownBlock := by
 have K : ∀ j u, [x][j]? = some u -> w.cell? ⟨J, 0 + j, none⟩ = some u := fun j u hj => by rw [Nat.zero_add]; exact U.cell j hj
 have N : ∀ u ∈ [x], u.oneCell' = true := fun u hu => by simp at hu; subst hu; exact h2
 have R : cs.length = n := by have := X.1; omega
 rcases Nat.lt_or_ge i n with L | h9
 ·obtain ⟨g, c, l, rfl, h3, S, C, Q, hf, s⟩ := boo X (by omega)
  have hc : J ≠ g := fun e => z (by subst e; rfl)
  have I := Q;unfold maxLen at I;have M : ∀ j u, cs[j]? = some u -> w.cell? ⟨g, 0 + j, none⟩ = some u := fun j u hj => by
   rw [Nat.zero_add];refine S.cell j ?_;rw [<- s, List.getElem?_take] at hj;split at hj
   ·exact hj
   ·cases hj
  rcases Nat.lt_or_ge n c with O | h7
  ·refine (iSs g n c i J cs x w L O I hc R M (fun j hj => ?_) (fun j _ => S.frozen _) K E N 9 9 1 l.length (by unfold BoxN at U; simp [World.shape?, U]) (by unfold BoxN at S; simp [World.shape?, S]) (by omega) (U.frozen 0) (U.frozen 1)).mono ?_
   ·rw [S.cell (0 + j) (List.getElem?_eq_getElem (by omega))]; rfl
   ·rintro e w' ⟨rfl, rfl⟩
    obtain ⟨k, a⟩ := ie0 (x := x) s L (by omega : n + 1 <= l.length);have hd : (cs.drop i).length = n - i := by rw [List.length_drop, R]
    have h := BoxN.setCells (cs.drop i) (i + 1) S.drew (by omega);have f := BoxN.setCells [x] i h (by rw [k]; simp; omega);rw [Nat.zero_add, Nat.zero_add];refine ⟨_, rfl, oob f h3 O Q ?_ a, gsC [x] i (gsC (cs.drop i) (i + 1) (gdw (grl w (some g))))⟩;simp only [List.length_append, List.length_take, List.length_drop, List.length_singleton] at k ⊢;omega
  ·obtain rfl : c = n := by omega
   refine (ik0 g c i J cs x w L hn R M K E N).mono ?_;rintro e w' ⟨rfl, rfl⟩;have h4 := grownCap_ge w (c + 1) c 9;have h5 := grownCap_le_maxLen w (c + 1) c 9 (by unfold maxLen; omega);generalize grownCap w (c + 1) c 9 = G at *;obtain ⟨V, hR⟩ := zex ((cs.take i).toArray ++ Builtin.zeroCells (Value.string ⟨#[]⟩).cells (c + 1 - i) ++ Builtin.zeroCells (Value.string ⟨#[]⟩).cells (G - (c + 1)) : Array Value);rw [<- hR];have A : V.toList.length = G := by
    rw [hR];simp [Builtin.zeroCells, Value.cells];omega
   have h6 : V.toList.take i = cs.take i := by
    rw [hR];simp only [Array.toList_append, List.append_assoc];rw [List.take_append_of_le_length (by rw [List.length_take]; omega), List.take_take, Nat.min_self]
   have kb : BoxN (w.alloc (.cells V 9)) w.heap.size 9 V.toList := BoxN.new _ _ _ _ rfl;obtain ⟨e0, k, a⟩ := igw (x := x) R h6 L (by omega);have hd : (cs.drop i).length = c - i := by rw [List.length_drop, R]
   have h := BoxN.setCells [x] i kb.drew (by rw [A]; simp; omega);have f := BoxN.setCells (cs.drop i) (i + 1) h.drew (by simp only [List.length_singleton]; rw [e0]; omega);simp only [List.length_singleton] at h f;have h8 : w.grownBy (((w.alloc (.cells V 9)).drew.setCells w.heap.size i [x]).drew.setCells w.heap.size (i + 1) (cs.drop i)) (some g) := by
    have m : (w.alloc (.cells V 9)).grownBy (((w.alloc (.cells V 9)).drew.setCells w.heap.size i [x]).drew.setCells w.heap.size (i + 1) (cs.drop i)) (some w.heap.size) := gsC _ _ (gdw (gsC _ _ (gdw (grl (w.alloc (.cells V 9)) _))));refine ⟨m.os, m.tape, m.output, Nat.le_trans (by simp) m.size, fun j hj hne' => ?_⟩;rw [m.block j (by simp; omega) (fun e => by cases e; omega)];exact ho0 _ _ _ hj
   exact ⟨_, rfl, oob f hB h4 h5 (by rw [k]; exact A) a, h8⟩
 ·obtain rfl : i = n := by omega
  obtain ⟨i0, t, r, o, q⟩ := info_parts (show ((Tryz.prog).info? 9).map (fun i => (i.zero, i.size, i.bytes)) = some (some (Value.string ⟨#[]⟩), 1, 16) by kernel_rfl);obtain ⟨p, c, rfl⟩ := oRs X;have HO := hid X;have HV := hid K;have HC := hid U;have hE : Hid (cs.take i ++ x :: cs.drop i = cs ++ [x]) := by unfold Hid; rw [List.take_of_length_le (by omega), List.drop_of_length_le (by omega)]
  have hh : c <= 9223372036854775807 := by
   rcases X.2 with ⟨H, h1⟩ | ⟨g, cap, b, H, hb, hg, C, Q, M, ht⟩
   ·cases H; omega
   ·cases H; exact Q
  have he : i <= c := by
   rcases X.2 with ⟨H, h1⟩ | ⟨g, cap, b, H, hb, hg, C, Q, M, ht⟩
   ·cases H; omega
   ·cases H; exact C
  clear X K U z R h9 ha E;rcases (Decidable.em (c = i)) with y | y
  ·subst y
   go_enter Tryz.func45, Tryz.ntmps45
   go_wp2_with (at_builtin; refine wpList_append_own _ rfl _ _ 42 rfl B 9 i0 (Value.string ⟨#[]⟩) 1 16 Tryz.underlying42 t r o q rfl (by decide) _ _ _ rfl HO.out ⟨J, 0, none⟩ 1 1 [x] rfl rfl (fun j u hu => by rw [Addr.add_lit]; exact HV.out j u hu) N (by unfold maxLen; omega) (by omega) hB ?_
                intro v7 w7 Z Y _)
   have D : w.grownBy w7 (Value.slice p c c).ownBlock := Y;rw [<- hE.out] at Z;have d := hid Z;clear Z Y;go_wp2_with fail;go_ret;exact ⟨_, rfl, d.out, D⟩
  ·go_enter Tryz.func45, Tryz.ntmps45
   go_wp2_with (at_builtin; refine wpList_append_own _ rfl _ _ 42 rfl B 9 i0 (Value.string ⟨#[]⟩) 1 16 Tryz.underlying42 t r o q rfl (by decide) _ _ _ rfl HO.out ⟨J, 0, none⟩ 1 1 [x] rfl rfl (fun j u hu => by rw [Addr.add_lit]; exact HV.out j u hu) N (by unfold maxLen; omega) (by omega) hB ?_
                intro v7 w7 Z Y _)
   have D : w.grownBy w7 (Value.slice p i c).ownBlock := Y;rw [<- hE.out] at Z;have d := hid Z;clear Z Y;go_wp2_with fail;go_ret;exact ⟨_, rfl, d.out, D⟩
theorem iFs (b n c i X : Nat) (cs : List Value) (x : Value) (w : World) (hi : i < n) (C : n + 1 <= c) (r : c <= 9223372036854775807) (O : X ≠ b)
 (K : cs.length = n) (J : ∀ j v, cs[j]? = some v -> w.cell? ⟨b, 0 + j, none⟩ = some v) (U : ∀ j, j < n + 1 -> (w.cell? ⟨b, 0 + j, none⟩).isSome = true) (S : ∀ j, j < n + 1 -> w.frozen? ⟨b, 0 + j, none⟩ = false)
 (z : ∀ j v, [x][j]? = some v -> w.cell? ⟨X, 0 + j, none⟩ = some v) (M : ∀ v ∈ cs, v.oneCell' = true) (L : ∀ v ∈ [x], v.oneCell' = true)
 (q p : TypeId) (y t : Nat) (B : w.shape? X = some (q, y)) (A : w.shape? b = some (p, t)) (E : t ≠ 0) (H : w.frozen? ⟨X, 0, none⟩ = false) (G : w.frozen? ⟨X, y, none⟩ = false) :
 Calls Tryz.prog 46 #[.slice (some ⟨b, 0, none⟩) n c, .int .i64 i, .slice (some ⟨X, 0, none⟩) 1 1] w fun e w' =>
  e = .returned (.slice (some ⟨b, 0, none⟩) (n + 1) c) /\ w' = (w.drew.setCells b (0 + (i + 1)) (cs.drop i)).setCells b (0 + i) [x] := by
 have s : (Tryz.prog).follows .mixedOrders = true := by kernel_rfl
 have h0 : ¬ ((i : Int) = (n : Int)) := by omega
 have Q : ((Tryz.prog).info? 33).map (·.size) = some 1 := by kernel_rfl
 have D : ∀ lb cb, (callFunc 85 #[.slice (some ⟨X, 0, none⟩) 1 1, .slice (some ⟨b, i + 1, none⟩) lb cb]).run Tryz.prog w = .ok (.value (.bool false)) w := fun lb cb => by
  rw [run_callFunc_extern Tryz.func85 (by kernel_rfl) (by kernel_rfl) (by kernel_rfl) (e := Extern.SlicesOverlaps.overlaps #[43, 43] #[4]) (by kernel_rfl),
   Lib.run_overlaps_apart w 43 4 33 Tryz.underlying43 1 Tryz.sizeOf33 ⟨X, 0, none⟩ ⟨b, i + 1, none⟩ 1 1 lb cb O q p y t B A E H G]
  rfl
 have I : (cs.drop i).length = n - i := by rw [List.length_drop, K]
 have a : IntKind.i64.wrap ((i : Int) + 1) = (i : Int) + 1 := by rw [IntKind.wrap_i64]; omega
 have o : (0 : Int) <= (i : Int) + 1 := by omega
 have f : i <= n := by omega
 have d : ((i : Int) + 1).toNat = i + 1 := by omega
 have m : ¬ (c = i + 1) := by omega
 have l : (i : Int) <= (n : Int) + 1 := by omega
 have g : ¬ (c = i) := by omega
 have Y : ∀ ty dc sc, (Builtin.copy_ #[43, 43] ty #[.slice (some ⟨b, 0 + (i + 1), none⟩) (n + 1 - (i + 1)) dc, .slice (some ⟨b, 0 + i, none⟩) (n + 1 - i) sc]).run Tryz.prog w.drew = .ok (goInt (cs.drop i).length) (w.drew.setCells b (0 + (i + 1)) (cs.drop i)) := fun ty dc sc =>
  run_copy_cells w.drew _ _ ty 33 b (0 + (i + 1)) (n + 1 - (i + 1)) dc ⟨b, 0 + i, none⟩ (n + 1 - i) sc (cs.drop i) Tryz.underlying43 Q (by rw [I]; simp only [Nat.min_def]; split <;> omega)
   (fun j v hj => by rw [Addr.add_lit, Nat.add_assoc]; exact J (i + j) v (by rwa [List.getElem?_drop] at hj))
   (fun j hj => by rw [Nat.add_assoc]; exact U _ (by omega)) (fun j hj => by rw [Nat.add_assoc]; exact S _ (by omega)) (fun v hv => M v (List.mem_of_mem_drop hv))
 obtain ⟨N, Z⟩ := zex (w.drew.setCells b (0 + (i + 1)) (cs.drop i));have R : ∀ k, k < n + 1 -> (N.cell? ⟨b, 0 + k, none⟩).isSome = true := fun k hk => by
  rw [Z];exact Go.Proofs.isSome_setCells b _ _ _ (fun j hj => by rw [Nat.add_assoc]; exact U _ (by omega)) _ (U k hk)
 have V : ∀ (W : World), (∀ x, W.cell? x = N.cell? x) -> (∀ x, W.frozen? x = N.frozen? x) -> ∀ ty dc, (Builtin.copy_ #[43, 43] ty #[.slice (some ⟨b, 0 + i, none⟩) (n + 1 - i) dc, .slice (some ⟨X, 0, none⟩) 1 1]).run Tryz.prog W = .ok (goInt [x].length) (W.setCells b (0 + i) [x]) := fun W hWc hWf ty dc =>
  run_copy_cells W _ _ ty 33 b (0 + i) (n + 1 - i) dc ⟨X, 0, none⟩ 1 1 [x] Tryz.underlying43 Q (by simp only [Nat.min_def, List.length_singleton]; split <;> omega)
   (fun j v hj => by
     rw [Addr.add_lit, hWc, Z, World.cell?_setCells_out b _ _ _ _ (fun h _ => absurd h O)];exact z j v hj)
   (fun j hj => by rw [hWc, Nat.add_assoc]; exact R _ (by simp at hj; omega)) (fun j hj => by rw [hWf, Z, World.frozen?_setCells, Nat.add_assoc]; exact S _ (by simp at hj; omega)) L
 rw [<- Z] at Y;simp only [Nat.zero_add] at Y V;go_enter Tryz.func46, Tryz.ntmps46;go_wp2_with (simp only [D])
 go_region_law_o (refine step_copy_runI rfl _ _ 43 43 rfl (.slice (some ⟨b, i + 1, none⟩) (n + 1 - (i + 1)) (c - (i + 1))) (.slice (some ⟨b, i, none⟩) (n + 1 - i) (c - i)) (by simp [Act.eval, Act.put]) (by simp [Act.eval, Act.put]) (Y _ _ _) ?_)
 go_wp2_with (at_builtin; refine wpList_copy_runI _ rfl _ _ 43 43 rfl _ _ rfl rfl (V _ (fun _ => rfl) (fun _ => rfl) _ _) ?_);go_ret;refine ⟨rfl, ?_⟩;first | simp only [Nat.zero_add] | (rw [Z]; simp only [Nat.zero_add])
theorem iFg (b n i Q : Nat) (cs : List Value) (x : Value) (w : World) (hi : i < n) (h3 : n <= 1000000)
 (f : cs.length = n) (O : ∀ j v, cs[j]? = some v -> w.cell? ⟨b, 0 + j, none⟩ = some v)
 (H : ∀ j v, [x][j]? = some v -> w.cell? ⟨Q, 0 + j, none⟩ = some v) (B : ∀ v ∈ cs, v.oneCell' = true) (A : ∀ v ∈ [x], v.oneCell' = true) :
 Calls Tryz.prog 46 #[.slice (some ⟨b, 0, none⟩) n n, .int .i64 i, .slice (some ⟨Q, 0, none⟩) 1 1] w fun e w' =>
  e = .returned (.slice (some ⟨w.heap.size, 0, none⟩) (n + 1) (grownCap w (n + 1) n 33)) /\
  w' = (((w.alloc (.cells ((cs.take i).toArray ++ Builtin.zeroCells (Value.slice none 0 0).cells (n + 1 - i) ++ Builtin.zeroCells (Value.slice none 0 0).cells (grownCap w (n + 1) n 33 - (n + 1))) 33)).drew.setCells w.heap.size i [x]).drew).setCells w.heap.size (i + 1) (cs.drop i) := by
 obtain ⟨i0, K, a, D, E⟩ := info_parts (show ((Tryz.prog).info? 33).map (fun i => (i.zero, i.size, i.bytes)) = some (some (Value.slice none 0 0), 1, 24) by kernel_rfl);have h0 : (Tryz.prog).follows .mixedOrders = true := by kernel_rfl
 have hc : ¬ ((i : Int) = (n : Int)) := by omega
 have hd : (n : Int) < (n : Int) + 1 := by omega
 have I : ((Tryz.prog).info? 33).map (·.size) = some 1 := by rw [K]; simp [D]
 have g : b < w.heap.size := block_lt_of_cell (O 0 _ (List.getElem?_eq_getElem (by omega)));have c : Q < w.heap.size := block_lt_of_cell (H 0 _ (List.getElem?_eq_getElem (by simp)));have J : (n : Int) + 1 - (i : Int) = ((n + 1 - i : Nat) : Int) := by omega
 have N : i + (n + 1 - i) = n + 1 := by omega
 have R : (Builtin.firstCells i0.size i (.slice (some ⟨b, 0, none⟩) i n)).run Tryz.prog w.drew = .ok (cs.take i).toArray w.drew := by
  rw [D];exact run_firstCells_some w.drew 1 i ⟨b, 0, none⟩ i n (cs.take i) (by rw [List.length_take]; omega) (fun j v hj => by
   rw [Addr.add_lit];rw [List.getElem?_take] at hj;split at hj
   ·exact O j v hj
   ·cases hj)
 have V : ∀ ty, (Builtin.append_ #[43, 3] ty #[.slice (some ⟨b, 0, none⟩) i n, .int .i64 ((n : Int) + 1 - (i : Int))]).run Tryz.prog w =
  .ok (.slice (some ⟨w.heap.size, 0, none⟩) (n + 1) (grownCap w (n + 1) n 33)) (w.drew.alloc (.cells ((cs.take i).toArray ++ Builtin.zeroCells (Value.slice none 0 0).cells (n + 1 - i) ++ Builtin.zeroCells (Value.slice none 0 0).cells (grownCap w (n + 1) n 33 - (n + 1))) 33)) := fun ty => by
  have h := Lib.run_append_grow_zeros w 43 3 ty 33 i0 _ .i64 .i64 Tryz.underlying43 Tryz.underlying3 K a (some ⟨b, 0, none⟩) i n (cs.take i) R (n + 1 - i) (by omega) (by omega) (by omega) (by omega) (by rw [E]; omega) (by rw [E, N]; exact growslice_fits (by omega) (by omega));rw [N] at h;rw [J];exact h
 obtain ⟨G, C⟩ := zex (grownCap w (n + 1) n 33);obtain ⟨Z, X⟩ := zex ((cs.take i).toArray ++ Builtin.zeroCells (Value.slice none 0 0).cells (n + 1 - i) ++ Builtin.zeroCells (Value.slice none 0 0).cells (G - (n + 1)) : Array Value);rw [<- C] at V ⊢;rw [<- X] at V ⊢;have l : n + 1 <= Z.size := by
  rw [X];simp [Builtin.zeroCells, Value.cells];omega
 obtain ⟨U, Y⟩ := zex (w.drew.alloc (.cells Z 33));rw [<- Y] at V;have p : ∀ j, j < n + 1 -> (U.cell? ⟨w.heap.size, j, none⟩).isSome = true := fun j hj => by
  rw [Y, World.cell?_alloc_at (w := w.drew) Z _ w.heap.size j rfl, Array.getElem?_eq_getElem (by omega)]; rfl
 have M : ∀ j, U.frozen? ⟨w.heap.size, j, none⟩ = false := fun j => by rw [Y]; exact World.frozen?_alloc_at (w := w.drew) Z _ w.heap.size j rfl
 have o : ∀ j v, w.cell? ⟨b, j, none⟩ = some v -> U.cell? ⟨b, j, none⟩ = some v := fun j v h => by rw [Y, World.cell?_alloc_past (w := w.drew) _ b j g]; exact h
 have m : ∀ j v, w.cell? ⟨Q, j, none⟩ = some v -> U.cell? ⟨Q, j, none⟩ = some v := fun j v h => by rw [Y, World.cell?_alloc_past (w := w.drew) _ Q j c]; exact h
 have L : ∀ (W : World), (∀ x, W.cell? x = U.cell? x) -> (∀ x, W.frozen? x = U.frozen? x) -> ∀ ty dc, (Builtin.copy_ #[43, 43] ty #[.slice (some ⟨w.heap.size, i, none⟩) (n + 1 - i) dc, .slice (some ⟨Q, 0, none⟩) 1 1]).run Tryz.prog W = .ok (goInt [x].length) (W.setCells w.heap.size i [x]) := fun W hWc hWf ty dc =>
  run_copy_cells W _ _ ty 33 w.heap.size i (n + 1 - i) dc ⟨Q, 0, none⟩ 1 1 [x] Tryz.underlying43 I (by simp only [Nat.min_def, List.length_singleton]; split <;> omega)
   (fun j v hj => by rw [Addr.add_lit, hWc]; exact m _ v (H j v hj))
   (fun j hj => by rw [hWc]; exact p _ (by simp at hj; omega)) (fun j hj => by rw [hWf]; exact M _) A
 have h5 : n + 1 <= G := by rw [C]; exact grownCap_ge w _ _ _
 have h1 : G <= 9223372036854775807 := by
  have := grownCap_le_maxLen w (n + 1) n 33 (by unfold maxLen; omega);rw [<- C] at this;unfold maxLen at this;omega
 have h4 : ¬ (G = i) := by omega
 have h2 : ¬ (G = i + 1) := by omega
 have h8 : ¬ (n = i) := by omega
 have k : b ≠ w.heap.size := by omega
 have d : (cs.drop i).length = n - i := by rw [List.length_drop, f]
 have S : ∀ (W : World), (∀ y, W.cell? y = (U.setCells w.heap.size i [x]).cell? y) -> (∀ y, W.frozen? y = (U.setCells w.heap.size i [x]).frozen? y) -> ∀ ty dc sc, (Builtin.copy_ #[43, 43] ty #[.slice (some ⟨w.heap.size, i + 1, none⟩) (n + 1 - (i + 1)) dc, .slice (some ⟨b, i, none⟩) (n - i) sc]).run Tryz.prog W = .ok (goInt (cs.drop i).length) (W.setCells w.heap.size (i + 1) (cs.drop i)) := fun W hWc hWf ty dc sc =>
  run_copy_cells W _ _ ty 33 w.heap.size (i + 1) (n + 1 - (i + 1)) dc ⟨b, i, none⟩ (n - i) sc (cs.drop i) Tryz.underlying43 I (by rw [d]; simp only [Nat.min_def]; split <;> omega)
   (fun j v hj => by
     rw [Addr.add_lit, hWc, World.cell?_setCells_out _ _ _ _ _ (fun h _ => absurd h k)];have h := O (i + j) v (by rwa [List.getElem?_drop] at hj);rw [Nat.zero_add] at h;exact o _ v h)
   (fun j hj => by rw [hWc]; exact Go.Proofs.isSome_setCells _ _ _ _ (fun t ht => p _ (by simp at ht; omega)) _ (p _ (by omega)))
   (fun j hj => by rw [hWf, World.frozen?_setCells]; exact M _) (fun v hv => B v (List.mem_of_mem_drop hv))
 subst Y;have z : ∀ x, ((w.alloc (.cells Z 33)).drew).cell? x = (w.drew.alloc (.cells Z 33)).cell? x := fun x => rfl;have s : ∀ x, ((w.alloc (.cells Z 33)).drew).frozen? x = (w.drew.alloc (.cells Z 33)).frozen? x := fun x => rfl;have r : ∀ y, (((w.alloc (.cells Z 33)).drew.setCells w.heap.size i [x]).drew).cell? y = ((w.drew.alloc (.cells Z 33)).setCells w.heap.size i [x]).cell? y := fun y => rfl;have q : ∀ y, (((w.alloc (.cells Z 33)).drew.setCells w.heap.size i [x]).drew).frozen? y = ((w.drew.alloc (.cells Z 33)).setCells w.heap.size i [x]).frozen? y := fun y => rfl;have hb : IntKind.i64.wrap ((i : Int) + 1) = (i : Int) + 1 := by rw [IntKind.wrap_i64]; omega
 have h6 : (0 : Int) <= (i : Int) + 1 := by omega
 have h9 : i <= n := by omega
 have ha : ((i : Int) + 1).toNat = i + 1 := by omega
 have h7 : (i : Int) <= (n : Int) := by omega
 clear J N R X C l;go_enter Tryz.func46, Tryz.ntmps46;go_wp2_with (first
  | (at_builtin; refine Lib.wpList_append_run _ rfl _ _ _ _ rfl _ _ rfl rfl _ _ (V _) ?_)
  | (at_builtin; refine wpList_copy_runI _ rfl _ _ 43 43 rfl _ _ rfl rfl (L _ z s _ _) ?_)
  | (at_builtin; refine wpList_copy_runI _ rfl _ _ 43 43 rfl _ _ rfl rfl (S _ (fun _ => rfl) (fun _ => rfl) _ _ _) ?_))
 go_region_law_o (refine step_copy_runI rfl _ _ 43 43 rfl (.slice (some ⟨w.heap.size, i + 1, none⟩) (n + 1 - (i + 1)) (G - (i + 1))) (.slice (some ⟨b, i, none⟩) (n - i) (n - i)) (by simp [Act.eval, Act.put]) (by simp [Act.eval, Act.put]) (S _ r q 3 (G - (i + 1)) (n - i)) ?_)
 go_wp2;go_ret;exact ⟨rfl, rfl⟩
theorem iFa (w : World) (B : Nat) (v : Value) (n i J : Nat) (cs : List Value) (x : Value) (X : w.ownsRow B 33 1 v n cs) (U : BoxN w J 33 [x]) (E : ∀ u ∈ cs, u.oneCell' = true) (h2 : x.oneCell' = true)
 (ha : i <= n) (hn : n <= 1000000) (hB : B <= w.heap.size) (z : v.ownBlock ≠ some J) :
 Calls Tryz.prog 46 #[v, .int .i64 i, .slice (some ⟨J, 0, none⟩) 1 1] w fun e w' => ∃ v', e = .returned v' /\ w'.ownsRow B 33 1 v' (n + 1) (cs.take i ++ x :: cs.drop i) /\ w.grownBy w' v.ownBlock := by
 have K : ∀ j u, [x][j]? = some u -> w.cell? ⟨J, 0 + j, none⟩ = some u := fun j u hj => by rw [Nat.zero_add]; exact U.cell j hj
 have N : ∀ u ∈ [x], u.oneCell' = true := fun u hu => by simp at hu; subst hu; exact h2
 have R : cs.length = n := by have := X.1; omega
 rcases Nat.lt_or_ge i n with L | h9
 ·obtain ⟨g, c, l, rfl, h3, S, C, Q, hf, s⟩ := boo X (by omega)
  have hc : J ≠ g := fun e => z (by subst e; rfl)
  have I := Q;unfold maxLen at I;have M : ∀ j u, cs[j]? = some u -> w.cell? ⟨g, 0 + j, none⟩ = some u := fun j u hj => by
   rw [Nat.zero_add];refine S.cell j ?_;rw [<- s, List.getElem?_take] at hj;split at hj
   ·exact hj
   ·cases hj
  rcases Nat.lt_or_ge n c with O | h7
  ·refine (iFs g n c i J cs x w L O I hc R M (fun j hj => ?_) (fun j _ => S.frozen _) K E N 33 33 1 l.length (by unfold BoxN at U; simp [World.shape?, U]) (by unfold BoxN at S; simp [World.shape?, S]) (by omega) (U.frozen 0) (U.frozen 1)).mono ?_
   ·rw [S.cell (0 + j) (List.getElem?_eq_getElem (by omega))]; rfl
   ·rintro e w' ⟨rfl, rfl⟩
    obtain ⟨k, a⟩ := ie0 (x := x) s L (by omega : n + 1 <= l.length);have hd : (cs.drop i).length = n - i := by rw [List.length_drop, R]
    have h := BoxN.setCells (cs.drop i) (i + 1) S.drew (by omega);have f := BoxN.setCells [x] i h (by rw [k]; simp; omega);rw [Nat.zero_add, Nat.zero_add];refine ⟨_, rfl, oob f h3 O Q ?_ a, gsC [x] i (gsC (cs.drop i) (i + 1) (gdw (grl w (some g))))⟩;simp only [List.length_append, List.length_take, List.length_drop, List.length_singleton] at k ⊢;omega
  ·obtain rfl : c = n := by omega
   refine (iFg g c i J cs x w L hn R M K E N).mono ?_;rintro e w' ⟨rfl, rfl⟩;have h4 := grownCap_ge w (c + 1) c 33;have h5 := grownCap_le_maxLen w (c + 1) c 33 (by unfold maxLen; omega);generalize grownCap w (c + 1) c 33 = G at *;obtain ⟨V, hR⟩ := zex ((cs.take i).toArray ++ Builtin.zeroCells (Value.slice none 0 0).cells (c + 1 - i) ++ Builtin.zeroCells (Value.slice none 0 0).cells (G - (c + 1)) : Array Value);rw [<- hR];have A : V.toList.length = G := by
    rw [hR];simp [Builtin.zeroCells, Value.cells];omega
   have h6 : V.toList.take i = cs.take i := by
    rw [hR];simp only [Array.toList_append, List.append_assoc];rw [List.take_append_of_le_length (by rw [List.length_take]; omega), List.take_take, Nat.min_self]
   have kb : BoxN (w.alloc (.cells V 33)) w.heap.size 33 V.toList := BoxN.new _ _ _ _ rfl;obtain ⟨e0, k, a⟩ := igw (x := x) R h6 L (by omega);have hd : (cs.drop i).length = c - i := by rw [List.length_drop, R]
   have h := BoxN.setCells [x] i kb.drew (by rw [A]; simp; omega);have f := BoxN.setCells (cs.drop i) (i + 1) h.drew (by simp only [List.length_singleton]; rw [e0]; omega);simp only [List.length_singleton] at h f;have h8 : w.grownBy (((w.alloc (.cells V 33)).drew.setCells w.heap.size i [x]).drew.setCells w.heap.size (i + 1) (cs.drop i)) (some g) := by
    have m : (w.alloc (.cells V 33)).grownBy (((w.alloc (.cells V 33)).drew.setCells w.heap.size i [x]).drew.setCells w.heap.size (i + 1) (cs.drop i)) (some w.heap.size) := gsC _ _ (gdw (gsC _ _ (gdw (grl (w.alloc (.cells V 33)) _))));refine ⟨m.os, m.tape, m.output, Nat.le_trans (by simp) m.size, fun j hj hne' => ?_⟩;rw [m.block j (by simp; omega) (fun e => by cases e; omega)];exact ho0 _ _ _ hj
   exact ⟨_, rfl, oob f hB h4 h5 (by rw [k]; exact A) a, h8⟩
 ·obtain rfl : i = n := by omega
  obtain ⟨i0, t, r, o, q⟩ := info_parts (show ((Tryz.prog).info? 33).map (fun i => (i.zero, i.size, i.bytes)) = some (some (Value.slice none 0 0), 1, 24) by kernel_rfl);obtain ⟨p, c, rfl⟩ := oRs X;have HO := hid X;have HV := hid K;have HC := hid U;have hE : Hid (cs.take i ++ x :: cs.drop i = cs ++ [x]) := by unfold Hid; rw [List.take_of_length_le (by omega), List.drop_of_length_le (by omega)]
  have hh : c <= 9223372036854775807 := by
   rcases X.2 with ⟨H, h1⟩ | ⟨g, cap, b, H, hb, hg, C, Q, M, ht⟩
   ·cases H; omega
   ·cases H; exact Q
  have he : i <= c := by
   rcases X.2 with ⟨H, h1⟩ | ⟨g, cap, b, H, hb, hg, C, Q, M, ht⟩
   ·cases H; omega
   ·cases H; exact C
  clear X K U z R h9 ha E;rcases (Decidable.em (c = i)) with y | y
  ·subst y
   go_enter Tryz.func46, Tryz.ntmps46
   go_wp2_with (at_builtin; refine wpList_append_own _ rfl _ _ 43 rfl B 33 i0 (Value.slice none 0 0) 1 24 Tryz.underlying43 t r o q rfl (by decide) _ _ _ rfl HO.out ⟨J, 0, none⟩ 1 1 [x] rfl rfl (fun j u hu => by rw [Addr.add_lit]; exact HV.out j u hu) N (by unfold maxLen; omega) (by omega) hB ?_
                intro v7 w7 Z Y _)
   have D : w.grownBy w7 (Value.slice p c c).ownBlock := Y;rw [<- hE.out] at Z;have d := hid Z;clear Z Y;go_wp2_with fail;go_ret;exact ⟨_, rfl, d.out, D⟩
  ·go_enter Tryz.func46, Tryz.ntmps46
   go_wp2_with (at_builtin; refine wpList_append_own _ rfl _ _ 43 rfl B 33 i0 (Value.slice none 0 0) 1 24 Tryz.underlying43 t r o q rfl (by decide) _ _ _ rfl HO.out ⟨J, 0, none⟩ 1 1 [x] rfl rfl (fun j u hu => by rw [Addr.add_lit]; exact HV.out j u hu) N (by unfold maxLen; omega) (by omega) hB ?_
                intro v7 w7 Z Y _)
   have D : w.grownBy w7 (Value.slice p i c).ownBlock := Y;rw [<- hE.out] at Z;have d := hid Z;clear Z Y;go_wp2_with fail;go_ret;exact ⟨_, rfl, d.out, D⟩
def SrcR (w : World) (x' : Value) (m size : Nat) (news : List Value) : Prop := (x' = .slice none 0 0 /\ m = 0 /\ news = []) \/ ∃ ad c, x' = .slice (some ad) m c /\ news.length = m * size /\ ∀ j u, news[j]? = some u -> w.cell? (ad.add j) = some u
theorem obk {w : World} {base e sz n : Nat} {v : Value} {xs : List Value} (h : w.ownsRow base e sz v n xs) (Q : 0 < n) : ∃ g c, v = .slice (some ⟨g, 0, none⟩) n c /\ base <= g /\ g < w.heap.size /\ n <= c /\ c <= maxLen := by
 rcases h.2 with ⟨_, R⟩ | ⟨g, cap, Z, S, V, U, Y, X, _⟩
 ·omega
 ·exact ⟨g, cap, S, V, (Array.getElem?_eq_some_iff.1 U).1, Y, X⟩
theorem on0 (w : World) (base t : Nat) (Z : base <= w.heap.size) : (w.alloc (.cells #[] t)).ownsRow base t 1 (.slice (some ⟨w.heap.size, 0, none⟩) 0 0) 0 ([] : List Value) := by
 have := World.ownsRow_lit (base := base) (e := t) (size := 1) w #[] 0 Z (by decide) rfl;simpa using this
theorem osc {w : World} {base e size n : Nat} {v : Value} {xs : List Value} (h : w.ownsRow base e size v n xs) : SrcR w v n size xs := by
 rcases h.2 with ⟨rfl, rfl⟩ | ⟨g, cap, Z, rfl, S, R, Y, X, V, U⟩
 ·exact .inl ⟨rfl, rfl, List.eq_nil_of_length_eq_zero (by rw [h.1]; omega)⟩
 ·exact .inr ⟨⟨g, 0, none⟩, cap, rfl, h.1, h.cells rfl⟩
theorem SrcR.below {w w' : World} {x' : Value} {m size : Nat} {news : List Value} (h : SrcR w x' m size news) (U : Below w.heap.size w w') : SrcR w' x' m size news := by
 rcases h with h | ⟨Z, c, X, V, Y⟩
 ·exact .inl h
 ·exact .inr ⟨Z, c, X, V, fun j u hu => (U.cell (p := Z.add j) (World.block_lt_of_cell? w _ (Y j u hu))).trans (Y j u hu)⟩
theorem was {P : Program} (w : World) {o : Oper} {a : Act} {K : Act -> World -> Prop} {Q : Exit -> Act -> World -> Prop} (s x : Operand) (t : TypeId)
 (E : o.op = .call { callee := .builtin .append, args := #[s, x], argTypes := #[t, t] })
 (base : Nat) (e : TypeId) (i : TypeInfo) (z : Value) (size bytes : Nat) (C : P.underlying t = some (.slice e)) (G : P.info? e = some i) (q : i.zero = some z)
 (R : i.size = size) (J : i.bytes = bytes) (H : z.cells.size = size) (I : 0 < size)
 (v : Value) (n : Nat) (M : List Value) (D : a.eval s = v) (Y : w.ownsRow base e size v n M)
 (B : Value) (m : Nat) (Z : List Value) (hx : a.eval x = B) (O : SrcR w B m size Z)
 (y : ∀ u ∈ Z, u.oneCell' = true) (L : n + m <= maxLen) (V : (n + m) * bytes <= 140737488355328) (U : base <= w.heap.size)
 (h : ∀ N w', w'.ownsRow base e size N (n + m) (M ++ Z) -> w.grownBy w' v.ownBlock -> K (a.put o.dst N) w') : Oper.wp P o a w K Q := by
 rcases O with ⟨rfl, rfl, rfl⟩ | ⟨A, c, rfl, r, S⟩
 ·have X := run_append_owned_none (P := P) (w := w) base t o.type e i size C (by rw [G]) v n M Y
  unfold Oper.wp;simp [execOp, E, resolve, invoke, builtin, D, hx, X, Result.andThen];exact h v w (by simpa using Y) (grl _ _)
 ·obtain ⟨N, w', X, p, l, _⟩ := run_append_own (P := P) w base t o.type e i z size bytes C G q R J H I v n M Y A m c Z r S y L V U
  unfold Oper.wp;simp [execOp, E, resolve, invoke, builtin, D, hx, X, Result.andThen];exact h N w' p l
theorem wLa {P : Program} (w : World) {ops : Array Oper} {rest : List Oper} {o : Oper} {a : Act} {Q : Exit -> Act -> World -> Prop} (N : o.guard = none) (s x : Operand) (t : TypeId)
 (G : o.op = .call { callee := .builtin .append, args := #[s, x], argTypes := #[t, t] })
 (base : Nat) (e : TypeId) (i : TypeInfo) (z : Value) (size bytes : Nat) (D : P.underlying t = some (.slice e)) (H : P.info? e = some i) (C : i.zero = some z)
 (V : i.size = size) (O : i.bytes = bytes) (L : z.cells.size = size) (M : 0 < size)
 (v : Value) (n : Nat) (J : List Value) (E : a.eval s = v) (U : w.ownsRow base e size v n J)
 (K : Value) (m : Nat) (Z : List Value) (hx : a.eval x = K) (S : SrcR w K m size Z)
 (I : ∀ u ∈ Z, u.oneCell' = true) (R : n + m <= maxLen) (Y : (n + m) * bytes <= 140737488355328) (X : base <= w.heap.size)
 (h : ∀ v' w', w'.ownsRow base e size v' (n + m) (J ++ Z) -> w.grownBy w' v.ownBlock -> wpList P ops Q rest (a.put o.dst v') w') : wpList P ops Q (o :: rest) a w :=
 wpList_plain N fun _ hK => was w s x t G base e i z size bytes D H C V O L M v n J E U K m Z hx S I R Y X fun v' w' a b => hK _ _ (h v' w' a b)
theorem aps (b o j : Nat) : (⟨b, o, none⟩ : Addr).add j = ⟨b, o + j, none⟩ := by
 simp only [Addr.add];split
 ·rename_i h; subst h; rfl
 ·rfl
section
variable {P : Program} {ops : Array Oper} {Q : Exit -> Act -> World -> Prop} {md : Region.Mode} {S : World -> Prop}
end
def FlsU (w : World) (R : Nat) (v : Value) (n : Nat) (S : List (List Rat)) : Prop :=
 S.length = n /\ ∃ us : List Value, us.length = n /\ w.ownsRow R 33 1 v n us /\ ∀ (i : Nat) (u : Value) (F : List Rat), us[i]? = some u -> S[i]? = some F -> FldV w 0 u F
theorem FlsU.below {w w' : World} {R : Nat} {v : Value} {n : Nat} {S : List (List Rat)} (h : FlsU w R v n S) (Z : Below w.heap.size w w') : FlsU w' R v n S := by
 obtain ⟨Y, us, X, V, U⟩ := h;exact ⟨Y, us, X, WRA V Z, fun i u F a b => (U i u F a b).below Z⟩
theorem FlsU.kept {w w' : World} {R b t n : Nat} {v : Value} {l : List Value} {S : List (List Rat)} (h : FlsU w R v n S) (V : w.grownBy w' (some b)) (X : BoxN w b t l) (Q : 33 ≠ t) (O : 55 ≠ t) : FlsU w' R v n S := by
 obtain ⟨U, us, N, Z, Y⟩ := h;exact ⟨U, us, N, World.ownsRow.kept Z V (.inr fun e => obN Z X Q e.symm), fun i u F a c => World.ownsRow.kept (Y i u F a c) V (.inr fun e => obN (Y i u F a c) X O e.symm)⟩
theorem FlsU.rd {w : World} {R n : Nat} {v : Value} {S : List (List Rat)} (h : FlsU w R v n S) : RdF w v S := by
 obtain ⟨Z, us, V, Y, X⟩ := h;subst Z;exact ⟨us, RdC.of_owns Y, fun i u F a b => (X i u F a b).rd⟩
theorem FlsU.shape {w : World} {R n : Nat} {v : Value} {S : List (List Rat)} (h : FlsU w R v n S) : ∃ p c, v = .slice p n c := by
 obtain ⟨Y, us, X, Z, V⟩ := h;exact oRs Z
theorem FlsU.snoc {w w' : World} {R n : Nat} {v v' u : Value} {S : List (List Rat)} {us : List Value} {F : List Rat} (Y : S.length = n) (X : us.length = n) (U : w.ownsRow R 33 1 v n us) (Q : ∀ (i : Nat) (u : Value) (F : List Rat), us[i]? = some u -> S[i]? = some F -> FldV w 0 u F)
 (O : w.grownBy w' v.ownBlock) (Z : w'.ownsRow R 33 1 v' (n + 1) (us ++ [u])) (N : FldV w 0 u F) : FlsU w' R v' (n + 1) (S ++ [F]) := by
 have key : ∀ {x F}, FldV w 0 x F -> FldV w' 0 x F := fun h => World.ownsRow.kept h O (oat h U (by decide))
 refine ⟨by rw [List.length_append, Y]; rfl, us ++ [u], by rw [List.length_append, X]; rfl, Z, fun i x G a b => ?_⟩;rcases Nat.lt_or_ge i n with h | h
 ·rw [List.getElem?_append_left (by omega)] at a
  rw [List.getElem?_append_left (by omega)] at b;exact key (Q i x G a b)
 ·have V := (List.getElem?_eq_some_iff.1 b).1
  rw [List.length_append] at V;obtain rfl : i = n := by simp at V; omega
  rw [List.getElem?_append_right (by omega), Y, Nat.sub_self] at b;rw [List.getElem?_append_right (by omega), X, Nat.sub_self] at a;simp at a b;subst a; subst b;exact key N
end Go.Proofs.YtmcbeajdloaliaaGreatDoor
namespace Go.Proofs.YtmcbeajdloaliaaGreatDoor
open Go.RowKit Go.Lib Go.Shelf
abbrev LayQ := ByteArray × ByteArray × ByteArray
def cg0 (x : LayQ) : List Value := [.string x.1, .string x.2.1, .string x.2.2]
def cLy (l : List LayQ) : List Value := l.flatMap cg0
def RdLy (w : World) (v : Value) (l : List LayQ) : Prop := RdC 3 w v l.length (cLy l)
theorem cLl (l : List LayQ) : (cLy l).length = l.length * 3 := by
 unfold cLy
 induction l with
 | nil => rfl
 | cons x l ih => rw [List.flatMap_cons, List.length_append, ih]; simp [cg0]; omega
theorem cLg (l : List LayQ) (i : Nat) (Z : i < l.length) (k : Nat) (Y : k < 3) : (cLy l)[i * 3 + k]? = (cg0 l[i])[k]? := by
 unfold cLy;rw [gEf cg0 3 (fun _ => rfl) l i k Y, List.getElem?_eq_getElem Z];rfl
theorem RdLy.below {w w' : World} {v : Value} {l : List LayQ} (h : RdLy w v l) (Z : Below w.heap.size w w') : RdLy w' v l := RdC.below h Z
theorem RdLy.nil (w : World) : RdLy w (.slice none 0 0) [] := RdC.nil0 _ _
theorem RdLy.shape {w : World} {v : Value} {l : List LayQ} (h : RdLy w v l) : ∃ p c, v = .slice p l.length c /\ l.length <= c /\ c <= maxLen := by
 obtain ⟨p, c, e, Z, Y, -⟩ := h;exact ⟨p, c, e, Z, Y⟩
theorem RdLy.cells {w : World} {v : Value} {l : List LayQ} (h : RdLy w v l) (Q : 0 < l.length) : ∃ b o c : Nat, v = .slice (some ⟨b, o, none⟩) l.length c /\ b < w.heap.size /\ l.length <= c /\
 ∀ (i : Nat) (Z : i < l.length), w.cell? ⟨b, o + i * 3, none⟩ = some (.string l[i].1) /\ w.cell? ⟨b, o + i * 3 + 1, none⟩ = some (.string l[i].2.1) /\ w.cell? ⟨b, o + i * 3 + 2, none⟩ = some (.string l[i].2.2) := by
 obtain ⟨p, c, rfl, S, -, -, R⟩ := h;obtain ⟨b, o, rfl, Y⟩ := R (List.ne_nil_of_length_pos (by rw [cLl]; omega));have key : ∀ (i : Nat) (Z : i < l.length), w.cell? ⟨b, o + i * 3, none⟩ = some (.string l[i].1) /\ w.cell? ⟨b, o + i * 3 + 1, none⟩ = some (.string l[i].2.1) /\ w.cell? ⟨b, o + i * 3 + 2, none⟩ = some (.string l[i].2.2) := fun i Z => by
  have X := Y (i * 3 + 0) _ ((cLg l i Z 0 (by omega)).trans rfl);have V := Y (i * 3 + 1) _ ((cLg l i Z 1 (by omega)).trans rfl);have U := Y (i * 3 + 2) _ ((cLg l i Z 2 (by omega)).trans rfl);rw [<- Nat.add_assoc] at X V U;exact ⟨X, V, U⟩
 exact ⟨b, o, c, rfl, World.block_lt_of_cell? w _ (key 0 Q).1, S, key⟩
theorem cLt (l : List LayQ) (m : Nat) : cLy (l.take m) = (cLy l).take (m * 3) := by
 unfold cLy
 induction l generalizing m with
 | nil => simp
 | cons x l ih =>
   cases m with
   | zero => simp
   | succ m =>
     rw [List.take_succ_cons, List.flatMap_cons, List.flatMap_cons, ih m, show (m + 1) * 3 = (cg0 x).length + m * 3 by simp [cg0]; omega, List.take_length_add_append]
theorem RdLy.take {w : World} {p : Option Addr} {c : Nat} {l : List LayQ} (h : RdLy w (.slice p l.length c) l) (m : Nat) (V : m <= l.length) : RdLy w (.slice p m c) (l.take m) := by
 obtain ⟨Q, c', e, S, Z, R, Y⟩ := h;cases e;refine ⟨p, c, by rw [List.length_take, Nat.min_eq_left V], by rw [List.length_take]; omega, Z, cLl _, fun hne => ?_⟩;rw [cLt] at hne ⊢;obtain ⟨b, off, U, X⟩ := Y (fun e => hne (by rw [e]; simp));refine ⟨b, off, U, fun i x hx => X i x ?_⟩;rw [List.getElem?_take] at hx;split at hx
 ·exact hx
 ·cases hx
def idxLy (l : List LayQ) (u : ByteArray) : Int := idxS (l.map (·.1)) u
theorem lFa (w : World) (x : LayQ) (u : ByteArray) (B : Nat) (V : w.cell? ⟨B, 0, none⟩ = some (.string u)) :
 Calls Tryz.prog 118 #[.agg #[.string x.1, .string x.2.1, .string x.2.2], .pointer (some ⟨B, 0, none⟩)] w (Ret (fun r _ => r = .bool (decide (x.1 = u))) w) := by
 obtain ⟨x0, x1, x2⟩ := x;have Z := World.block_lt_of_cell? w _ V;have Y := bse x0 u;dsimp only;have U := (((Below.refl w.heap.size w).alloc (Nat.le_refl _) (.cells #[.string x0, .string x1, .string x2] 92)).cell (p := ⟨B, 0, none⟩) Z).trans V;rcases Y with ⟨rfl, X⟩ | ⟨X, S, R⟩
 ·rw [decide_eq_true rfl]
  go_enter Tryz.func118, Tryz.ntmps118;go_wp2_with fail;go_ret;exact ⟨_, rfl, rfl, (Below.refl _ _).alloc (Nat.le_refl _) _⟩
 ·rw [decide_eq_false X]
  go_enter Tryz.func118, Tryz.ntmps118;go_wp2_with fail;go_ret;exact ⟨_, rfl, rfl, (Below.refl _ _).alloc (Nat.le_refl _) _⟩
theorem ll0 (w : World) (v : Value) (l : List LayQ) (u : ByteArray) (B : Nat) (K : w.cell? ⟨B, 0, none⟩ = some (.string u)) (h : RdLy w v l) (o : l.length <= 1000) :
 Calls Tryz.prog 117 #[v, .func (.func 118) #[] #[.pointer (some ⟨B, 0, none⟩)]] w (Ret (fun r _ => r = .int .i64 (idxLy l u)) w) := by
 obtain ⟨p, c, rfl, -, -⟩ := h.shape;have D := hid h;have L := World.block_lt_of_cell? w _ K;obtain ⟨O, Y⟩ : ∃ r, r = idxLy l u := ⟨_, rfl⟩;rw [<- Y];have X := hid Y;clear h Y;go_enter Tryz.func117, Tryz.ntmps117;go_wp2_with fail;go_loopw [5, 8] (fun _ t8 wr => ∃ i : Nat, t8 = .int .i64 i /\ i <= l.length /\ Hid (∀ j (hj : j < l.length), j < i -> l[j].1 ≠ u) /\ Below w.heap.size w wr) (fun _ t8 _ => l.length - (RowKit.intOf t8).toNat)
 case atStart => exact ⟨0, rfl, Nat.zero_le _, (fun j _ h => absurd h (by omega)), Below.refl _ _⟩
 case round =>
  obtain ⟨i, rfl, q, U, Z⟩ := hrel;rcases Nat.lt_or_ge i l.length with h | h
  ·obtain ⟨b, off, s, e, S, -, J⟩ := D.out.cells (by omega)
   injection e with e1 e2 e3
   clear e2;subst e1 e3;obtain ⟨I, H, G⟩ := J i h;have C := zcq Z S I;have A := zcq Z S H;have z := zcq Z S G;have E := hid (lFa wr l[i] u B ((zcq Z L K :)));have t : (i : Int) < (l.length : Int) := by omega
   have M : Hid (decide (l[i].1 = u) = true -> (i : Int) = O) := fun hd => by
    rw [X.out];unfold idxLy;exact (il0 (l := l.map (·.1)) (p := u) (i := i) (by rw [List.length_map]; exact h) (by rw [List.getElem_map]; exact of_decide_eq_true hd) (fun j hj => by rw [List.getElem_map]; exact U.out j (by omega) hj)).symm
   have N : Hid (decide (l[i].1 = u) = false -> ∀ j (hj : j < l.length), j < i + 1 -> l[j].1 ≠ u) := fun hd j hj hji => by
    rcases (by omega : j < i \/ j = i) with y | rfl
    ·exact U.out j hj y
    ·exact of_decide_eq_false hd
   generalize decide (l[i].1 = u) = bd at *;generalize l[i].1 = y0 at *;generalize l[i].2.1 = y1 at *;generalize l[i].2.2 = y2 at *;clear J I H G;go_wp2_with fail;refine E.out.mono ?_;rintro e n ⟨_, rfl, rfl, Q⟩;have V := zbt Z Q;clear C A z Q;cases bd
   ·have R := hid (N.out rfl)
    clear N M;go_wp2_with fail;go_roundw
    case rel => exact ⟨i + 1, by go_num, by omega, R, V⟩
    case measure =>
     show l.length - ((i : Int) + 1).toNat < l.length - (i : Int).toNat;omega
   ·have R := hid (M.out rfl)
    clear N M;go_wp2_with fail;go_ret;exact ⟨_, rfl, congrArg (Value.int .i64) R.out, V⟩
  ·have x : (l.length : Int) <= (i : Int) := by omega
   have R : Hid (-1 = O) := by
    unfold Hid;rw [X.out];unfold idxLy;exact (iSn (l := l.map (·.1)) (fun j hj => by rw [List.getElem_map]; exact U.out j (by rw [List.length_map] at hj; exact hj) (by rw [List.length_map] at hj; omega))).symm
   go_wp2_with fail;go_ret;exact ⟨_, rfl, congrArg (Value.int .i64) R.out, Z⟩
theorem cr0 (w : World) (v : Value) (l : List LayQ) (u : ByteArray) (h : RdLy w v l) (U : l.length <= 1000) :
 Calls Tryz.prog 72 #[v, .string u] w (Ret (fun r _ => r = .int .i64 (idxLy l u)) w) := by
 obtain ⟨p, c, rfl, -, -⟩ := h.shape;have X : Below w.heap.size w (w.alloc (.cells #[.string u] 9)) := zal _ _;have Z : (w.alloc (.cells #[.string u] 9)).cell? ⟨w.heap.size, 0, none⟩ = some (.string u) := (BoxN.new w #[.string u] 9 _ rfl).cell 0 rfl;have V := hid (ll0 (w.alloc (.cells #[.string u] 9)) (.slice p l.length c) l u w.heap.size Z (h.below X) U);generalize idxLy l u = z at *;clear h Z;go_enter Tryz.func72, Tryz.ntmps72;go_wp2_with fail;refine V.out.mono ?_;rintro e S ⟨_, rfl, rfl, Y⟩;go_wp2_with fail;go_ret;exact ⟨_, rfl, rfl, (zbt X Y)⟩
def layE (x : LayQ) : Int := if rQQ x.2.1.data.toList = false then 2 else if x.2.2.size ≠ 0 /\ rQQ x.2.2.data.toList = false then 2 else 0
def sLL (x : LayQ) : Prop := x.1.size < 1000000000 /\ x.2.1.size < 1000000000 /\ x.2.2.size < 1000000000
theorem lay (w : World) (x : LayQ) (A : sLL x) (V : Good w) :
 Calls Tryz.prog 71 #[.agg #[.string x.1, .string x.2.1, .string x.2.2]] w (Ret (fun r _ => r = .int .i64 (layE x)) w) := by
 obtain ⟨x0, x1, x2⟩ := x;obtain ⟨-, I, H⟩ := A;dsimp only at I H ⊢;have Z := hid fun w V => cQa x1 I w V;have K := hid fun w V => cQa x2 H w V;obtain ⟨X, Y⟩ : ∃ r, r = layE (x0, x1, x2) := ⟨_, rfl⟩;rw [<- Y];have J : Hid (X = if rQQ x1.data.toList = false then 2 else if x2.size ≠ 0 /\ rQQ x2.data.toList = false then 2 else 0) := Y;clear Y;generalize rQQ x1.data.toList = r1 at *;generalize rQQ x2.data.toList = r2 at *;obtain ⟨W, L⟩ := zex (w.alloc (.cells #[.string x0, .string x1, .string x2] 92));have Q : Below w.heap.size w W := by rw [L]; exact zal _ _
 have b1 : BoxN W w.heap.size 92 [.string x0, .string x1, .string x2] := by rw [L]; exact BoxN.new w #[.string x0, .string x1, .string x2] _ _ rfl
 have U := hid L;clear L I H;cases r1
 ·have R : Hid (X = 2) := by unfold Hid; rw [J.out]; rfl
  have G : eNm false = 2 := rfl;rw [G] at Z;go_enter Tryz.func71, Tryz.ntmps71;go_wp2_with fail;rw [<- U.out];refine zR (Z.out W (V.below Q)) fun w1 hb1 => ?_;go_wp2_with fail;go_ret;exact ⟨_, rfl, congrArg (Value.int .i64) R.out.symm, (zbt Q hb1)⟩
 ·have G : eNm true = 0 := rfl
  rw [G] at Z;by_cases hz : x2.size = 0
  ·have R : Hid (X = 0) := by unfold Hid; rw [J.out, if_neg (by decide), if_neg (fun h => h.1 hz)]
   have C := eof hz;go_enter Tryz.func71, Tryz.ntmps71;go_wp2_with fail;rw [<- U.out];refine zR (Z.out W (V.below Q)) fun w1 hb1 => ?_;have O := b1.bl hb1;have E := O.cell 1 rfl;have D := O.cell 2 rfl;go_wp2_with fail;go_ret;exact ⟨_, rfl, congrArg (Value.int .i64) R.out.symm, (zbt Q hb1)⟩
  ·obtain ⟨C, B⟩ := nEo (s := x2) (by omega)
   have z : (!x2.toList == []) = true := by
    cases h8 : x2.toList with
    | nil => exact absurd h8 B
    | cons a l => rfl
   have R : Hid (X = eNm r2) := by
    unfold Hid;rw [J.out, if_neg (by decide)];cases r2
    ·rw [if_pos ⟨hz, rfl⟩]; rfl
    ·rw [if_neg (fun h => by cases h.2)]; rfl
   go_enter Tryz.func71, Tryz.ntmps71;go_wp2_with fail;rw [<- U.out];refine zR (Z.out W (V.below Q)) fun w1 hb1 => ?_;have N := zbt Q hb1;have O := b1.bl hb1;have E := O.cell 1 rfl;have D := O.cell 2 rfl;go_wp2_with fail;refine zR (K.out w1 (V.below N)) fun w2 hb2 => ?_;have M := zbt N hb2;cases r2
   ·have S : eNm false = 2 := rfl
    rw [S];go_wp2_with fail;go_ret;exact ⟨_, rfl, congrArg (Value.int .i64) R.out.symm, M⟩
   ·have S : eNm true = 0 := rfl
    rw [S];go_wp2_with fail;go_ret;exact ⟨_, rfl, congrArg (Value.int .i64) R.out.symm, M⟩
theorem nc0 (w : World) (v : Value) (l : List LayQ) (h : RdLy w v l) (f : l.length <= 1000) :
 Calls Tryz.prog 116 #[v] w (Ret (fun r w2 => w2.ownsRow w.heap.size 9 1 r l.length (l.map fun x => Value.string x.1)) w) := by
 obtain ⟨p, c, rfl, -, -⟩ := h.shape;have D := hid h;obtain ⟨y, N, M, L, K⟩ := info_parts iSg;clear h;go_enter Tryz.func116, Tryz.ntmps116;go_wp2_with fail;go_loopw [3, 8] (fun t3 t8 wr => ∃ i : Nat, t8 = .int .i64 i /\ i <= l.length /\ wr.ownsRow w.heap.size 9 1 t3 i ((l.take i).map fun x => Value.string x.1) /\ Below w.heap.size w wr) (fun _ t8 _ => l.length - (RowKit.intOf t8).toNat)
 case atStart => exact ⟨0, rfl, Nat.zero_le _, World.ownsRow_nil _ _ _ _, Below.refl _ _⟩
 case round =>
  obtain ⟨i, rfl, g, Y, Z⟩ := hrel;obtain ⟨d, s, rfl⟩ := oRs Y;rcases Nat.lt_or_ge i l.length with h | h
  ·obtain ⟨b, off, q, e, U, -, J⟩ := D.out.cells (by omega)
   injection e with e1 e2 e3
   clear e2;subst e1 e3;obtain ⟨I, H, G⟩ := J i h;have o := zcq Z U I;have n := zcq Z U H;have m := zcq Z U G;have B : (i : Int) < (l.length : Int) := by omega
   have Q : Hid ((l.take (i + 1)).map (fun x => Value.string x.1) = (l.take i).map (fun x => Value.string x.1) ++ [.string l[i].1]) := by
    unfold Hid;rw [List.take_succ_eq_append_getElem h, List.map_append];rfl
   generalize l[i].1 = y0 at *;generalize l[i].2.1 = y1 at *;generalize l[i].2.2 = y2 at *;have R := (Y.alloc (.cells #[.string y0, .string y1, .string y2] 92)).alloc (.cells #[.string y0] 9);have O := (Z.alloc Z.size (.cells #[.string y0, .string y1, .string y2] 92)).alloc (by have := Z.size; simp; omega) (.cells #[.string y0] 9);have A := Z.size;clear J I H G
   go_wp2_with (at_builtin; refine wpList_append_own _ rfl _ _ 42 rfl w.heap.size 9 y (.string ⟨#[]⟩) 1 16 Tryz.underlying42 N M L K rfl (by decide) _ _ _ rfl R ⟨wr.heap.size + 1, 0, none⟩ 1 1 [.string y0] rfl rfl (by intro j u z; have := cell_one_new (wr.alloc (.cells #[.string y0, .string y1, .string y2] 92)) (.string y0) 9 j u z; simpa using this) (ocs _) (by unfold maxLen; omega) (by omega) (by simp; omega) ?_
                intro a t V X _;have S : Below w.heap.size w t := O.grown X (by simp; omega) (fun k hk => (R.lt k hk).1))
   rw [<- Q.out] at V;go_roundw
   case rel => exact ⟨i + 1, by go_num, by omega, V, S⟩
   case measure =>
    show l.length - ((i : Int) + 1).toNat < l.length - (i : Int).toNat;omega
  ·obtain rfl : i = l.length := by omega
   have C : ¬ (l.length : Int) < (l.length : Int) := by omega
   rw [List.take_length] at Y;have E := hid Y;clear Y;go_wp2_with fail;go_ret;exact ⟨_, rfl, E.out, Z⟩
noncomputable def lBd (l : List LayQ) (i : Nat) : Int :=
 match l[i]? with
 | some x => if layE x ≠ 0 then layE x else if nameQ x.1 = false then 8 else if 0 <= idxLy (l.take i) x.1 then 9 else if numT x.2.1 < 0 then 3 else if x.2.2.size ≠ 0 /\ numT x.2.2 < numT x.2.1 then 6 else 0
 | none => 0
noncomputable def colE (l : List LayQ) : Int := if l.length = 0 then 13 else if 60 < l.length then 4 else fEE (lBd l) l.length
theorem lBe {l : List LayQ} {i : Nat} (h : i < l.length) : lBd l i = if layE l[i] ≠ 0 then layE l[i] else if nameQ l[i].1 = false then 8 else if 0 <= idxLy (l.take i) l[i].1 then 9 else if numT l[i].2.1 < 0 then 3 else if l[i].2.2.size ≠ 0 /\ numT l[i].2.2 < numT l[i].2.1 then 6 else 0 := by
 unfold lBd;rw [List.getElem?_eq_getElem h]
theorem rRS {s : ByteArray} (h : rQQ s.data.toList = true) : ∃ q : Rat, s = RS q /\ Sz 200 q := by
 obtain ⟨q, e, hq⟩ := (rQi _).1 h;refine ⟨q, ?_, hq⟩;apply bet;rw [e, Rlt]
theorem lEz {x : LayQ} (h : layE x = 0) : (∃ q, x.2.1 = RS q /\ Sz 200 q) /\ (x.2.2.size = 0 \/ ∃ q, x.2.2 = RS q /\ Sz 200 q) := by
 unfold layE at h;by_cases h1 : rQQ x.2.1.data.toList = false
 ·rw [if_pos h1] at h; cases h
 ·rw [if_neg h1] at h
  refine ⟨rRS (by simpa using h1), ?_⟩;by_cases h2 : x.2.2.size = 0
  ·exact .inl h2
  ·by_cases h3 : rQQ x.2.2.data.toList = false
   ·rw [if_pos ⟨h2, h3⟩] at h; cases h
   ·exact .inr (rRS (by simpa using h3))
theorem cj0 (w : World) (v : Value) (l : List LayQ) (h : RdLy w v l) (hl : l.length <= 1000) (hs : ∀ x ∈ l, sLL x) (n : Good w) :
 Calls Tryz.prog 34 #[v] w (Ret (fun r _ => r = .int .i64 (colE l)) w) := by
 obtain ⟨p, c, rfl, hB, hq⟩ := h.shape;have HR := hid h;have HS := hid hs;obtain ⟨Y, D⟩ : ∃ r, r = colE l := ⟨_, rfl⟩;rw [<- D];have X : Hid (Y = if l.length = 0 then 13 else if 60 < l.length then 4 else fEE (lBd l) l.length) := D;clear h D hs;by_cases hU0 : l.length = 0
 ·have U : Hid (Y = 13) := by unfold Hid; rw [X.out, if_pos hU0]
  have hz : ((l.length : Int) == 0) = true := by rw [beq_iff_eq]; omega
  clear X;go_enter Tryz.func34, Tryz.ntmps34;go_wp2_with fail;go_ret;exact ⟨_, rfl, congrArg (Value.int .i64) U.out.symm, Below.refl _ _⟩
 have hz : ((l.length : Int) == 0) = false := by rw [beq_eq_false_iff_ne]; omega
 by_cases hU6 : 60 < l.length
 ·have U : Hid (Y = 4) := by unfold Hid; rw [X.out, if_neg hU0, if_pos hU6]
  have hw : decide ((60 : Int) < (l.length : Int)) = true := decide_eq_true (by omega);clear X;go_enter Tryz.func34, Tryz.ntmps34;go_wp2_with fail;go_ret;exact ⟨_, rfl, congrArg (Value.int .i64) U.out.symm, Below.refl _ _⟩
 have hw : decide ((60 : Int) < (l.length : Int)) = false := decide_eq_false (by omega);have h4 : Hid (Y = fEE (lBd l) l.length) := by unfold Hid; rw [X.out, if_neg hU0, if_neg hU6]
 unfold maxLen at hq;clear X;go_enter Tryz.func34, Tryz.ntmps34;go_wp2_with fail;go_loopw [16] (fun t16 wr => ∃ i : Nat, t16 = .int .i64 i /\ i <= l.length /\ Hid (∀ j, j < i -> lBd l j = 0) /\ Below w.heap.size w wr) (fun t16 _ => l.length - (RowKit.intOf t16).toNat)
 case atStart => exact ⟨0, rfl, Nat.zero_le _, fun j h => absurd h (by omega), Below.refl _ _⟩
 case round =>
  obtain ⟨i, rfl, hi, HJ, N⟩ := hrel;rcases Nat.lt_or_ge i l.length with E | E
  ·obtain ⟨b, off, cc, e, h2, -, hk⟩ := HR.out.cells (by omega)
   injection e with e1 e2 e3
   clear e2;subst e1 e3;obtain ⟨k0, k1, k2⟩ := hk i E;have x0 := zcq N h2 k0;have x1 := zcq N h2 k1;have x2 := zcq N h2 k2;have hG : (i : Int) < (l.length : Int) := by omega
   have hF : (i : Int) <= (c : Int) := by omega
   have hD : (0 : Int) <= (i : Int) := by omega
   have k := List.getElem_mem E;have d := hid (HS.out _ k);have S := hid (lBe E);have K : Hid (∀ w', Below w.heap.size w w' -> Calls Tryz.prog 72 #[.slice (some ⟨b, off, none⟩) i c, .string l[i].1] w' (Ret (fun r _ => r = .int .i64 (idxLy (l.take i) l[i].1)) w')) := fun w' hb => cr0 w' _ _ _ ((HR.out.below hb).take i (by omega)) (by rw [List.length_take]; omega)
   have y : Hid (∀ w', Good w' -> _) := fun w' n => lay w' l[i] d.out n;have t : Hid (∀ w', _) := fun w' => iNa l[i].1 w';have HZ := hid (lEz (x := l[i]));have Z : Hid (lBd l i ≠ 0 -> Y = lBd l i) := fun h => by rw [h4.out]; exact fEa E h HJ.out
   have J : Hid (lBd l i = 0 -> ∀ j, j < i + 1 -> lBd l j = 0) := fun h j hj => by
    rcases (by omega : j < i \/ j = i) with R | rfl
    ·exact HJ.out j R
    ·exact h
   generalize lBd l i = lb at *;obtain ⟨⟨C, g, M⟩, hy⟩ : ∃ x, x = l[i] := ⟨_, rfl⟩;rw [<- hy] at x0 x1 x2 d S K y t HZ;dsimp only at x0 x1 x2 d S K y t HZ;clear hy k0 k1 k2 hk k;go_upto_region 8 with fail;obtain ⟨V, hV⟩ := zex (wr.alloc (.cells #[.string C, .string g, .string M] 92));have hf : Below wr.heap.size wr V := by rw [hV]; exact zal _ _
   have bV : BoxN V wr.heap.size 92 [.string C, .string g, .string M] := by rw [hV]; exact BoxN.new wr #[.string C, .string g, .string M] _ _ rfl
   rw [<- hV];clear hV x0 x1 x2;have h9 := zbt N hf;obtain ⟨d0, d1, d2⟩ := zk3 bV;go_wp2_with fail;refine zR (y.out V (n.below h9)) fun w2 hb2 => ?_;have ha := zbt h9 hb2;have b2 := bV.bl hb2;clear d0 d1 d2 hb2 bV hf y;by_cases hE : layE (C, g, M) = 0
   case neg =>
    have U : Hid (Y = layE (C, g, M)) := by
     have R : lb = layE (C, g, M) := by rw [S.out, if_pos hE]
     unfold Hid;rw [Z.out (by rw [R]; exact hE), R]
    have hA : (layE (C, g, M) != 0) = true := by rw [bne_iff_ne]; exact hE
    generalize layE (C, g, M) = ez at *;go_wp2_with fail;go_ret;exact ⟨_, rfl, congrArg (Value.int .i64) U.out.symm, ha⟩
   case pos =>
   obtain ⟨⟨Q, rfl, z1⟩, ht⟩ := HZ.out hE;rw [hE] at S ⊢;have d0 := b2.cell 0 rfl;clear HZ hE;go_wp2_with fail;refine zR (t.out w2) fun w3 hb3 => ?_;have I := zbt ha hb3;have b3 := b2.bl hb3;clear d0 hb3 b2 t;cases hnb : nameQ C
   ·have U : Hid (Y = 8) := by
     have R : lb = 8 := by rw [S.out, if_neg (by decide), if_pos hnb]
     unfold Hid;rw [Z.out (by rw [R]; decide), R]
    go_wp2_with fail;go_ret;exact ⟨_, rfl, congrArg (Value.int .i64) U.out.symm, I⟩
   have d0 := b3.cell 0 rfl;have l3 := b3.lt;have hm : Good w3.drew := (n.below I).drewN 1;have he : Below w.heap.size w w3.drew := I.trans ((bdN w3 1).mono I.size);obtain ⟨iz, m⟩ : ∃ z, z = idxLy (l.take i) C := ⟨_, rfl⟩;rw [<- m] at S K;clear m;obtain ⟨bg, hh⟩ : ∃ b, b = decide (0 <= iz) := ⟨_, rfl⟩;have B := hid hh;clear hh;go_upto_region 13 with fail;go_cut [31] from 32 to 38 (fun s wx => s = .bool bg /\ Below w3.heap.size w3 wx)
   case first =>
    go_region_held3 (fun w' => w'.cell? ⟨wr.heap.size, 0, none⟩ = some (.string C))
     (first | exact d0 | exact p_1_0)
     (first
     | (go_at_call 72; refine (K.out _ he).mono ?_; rintro e ho ⟨_, rfl, rfl, o⟩
        have p_1_0 := zct o d0;have hJ : w3.heap.size <= ho.heap.size := o.size;have hH := hm.below o))
    have pB : Below w3.heap.size w3 ho := zbt (bdN w3 1) o;have hr := pB;go_wp2_with fail;go_meet;exact ⟨by rw [B.out], hr⟩
   case rest =>
   obtain ⟨rfl, h0⟩ := hcut;have H := zbt I h0;have b4 := b3.below h0 l3;clear d0 h0 b3 hm he K;cases bg
   case true =>
    have U : Hid (Y = 9) := by
     have R : lb = 9 := by rw [S.out, if_neg (by decide), if_neg (by rw [hnb]; decide), if_pos (of_decide_eq_true B.out.symm)]
     unfold Hid;rw [Z.out (by rw [R]; decide), R]
    go_wp2_with fail;go_ret;exact ⟨_, rfl, congrArg (Value.int .i64) U.out.symm, H⟩
   have A : Hid (lb = if numT (RS Q) < 0 then 3 else if M.size ≠ 0 /\ numT M < numT (RS Q) then 6 else 0) := by
    unfold Hid;rw [S.out, if_neg (by decide), if_neg (by rw [hnb]; decide), if_neg (of_decide_eq_false B.out.symm)]
   rw [nTR] at A;have f : Hid (∀ w', _) := fun w' => ra0 Q w';have d1 := b4.cell 1 rfl;clear S B;obtain ⟨w4, hv⟩ : ∃ x : World, x = wc := ⟨_, rfl⟩;subst hv;by_cases hq0 : Q < 0
   case pos =>
    have U : Hid (Y = 3) := by
     have R : lb = 3 := by rw [A.out, if_pos hq0]
     unfold Hid;rw [Z.out (by rw [R]; decide), R]
    have hs : Q.num < 0 := num_lt_zero_iff.2 hq0;have hu : Q.num.sign < 0 := Int.sign_neg_iff.2 hs;go_wp2_with fail;refine (f.out w4).mono ?_;rintro e w5 ⟨_, rfl, rfl, nd, rfl⟩;go_wp2_with fail;go_ret;exact ⟨_, rfl, congrArg (Value.int .i64) U.out.symm, H.trans ((bdN w4 nd).mono H.size)⟩
   case neg =>
   have O : Hid (lb = if M.size ≠ 0 /\ numT M < Q then 6 else 0) := by unfold Hid; rw [A.out, if_neg hq0]
   have hs : ¬ Q.num < 0 := fun e => hq0 (num_lt_zero_iff.1 e);have hu : ¬ Q.num.sign < 0 := fun e => hs (Int.sign_neg_iff.1 e);go_wp2_with fail;refine (f.out w4).mono ?_;rintro e w5 ⟨_, rfl, rfl, nd, rfl⟩;have hd := H.trans ((bdN w4 nd).mono H.size);have b5 := b4.below (bdN w4 nd) b4.lt;obtain ⟨w5, hn⟩ : ∃ x, x = w4.drewN nd := ⟨_, rfl⟩;rw [<- hn] at hd b5 ⊢;have d1 := b5.cell 1 rfl;have d2 := b5.cell 2 rfl;have hx := N.size;clear A f hn;have G : Below w.heap.size w w5 := hd;by_cases hz2 : M.size = 0
   ·have U := hid (J.out (by rw [O.out, if_neg (fun h => h.1 hz2)]))
    have h5 := eof hz2;clear O J Z;go_wp2_with fail;go_roundw
    case rel => exact ⟨i + 1, by go_num, by omega, U, G⟩
    case measure =>
     show l.length - ((i : Int) + 1).toNat < l.length - (i : Int).toNat;omega
   ·obtain ⟨L, rfl, z2⟩ := ht.resolve_left hz2
    obtain ⟨h5, h6⟩ := nEo (s := RS L) (by omega);have h7 : (!(RS L).toList == []) = true := by
     cases h8 : (RS L).toList with
     | nil => exact absurd h8 h6
     | cons a l => rfl
    rw [nTR] at O;have h3 := hid fun w n => rCa L Q 200 (by omega) (by omega) z2 z1 w n
    have q := cQn L Q;by_cases hlt2 : L < Q
    ·have U : Hid (Y = 6) := by
      have R : lb = 6 := by rw [O.out, if_pos ⟨hz2, hlt2⟩]
      unfold Hid;rw [Z.out (by rw [R]; decide), R]
     have hc : cmpQ L Q < 0 := q.2 hlt2;generalize cmpQ L Q = cz at *;generalize RS L = s2 at *;clear O J Z q;go_wp2_with fail;refine zR (h3.out w5 (n.below G)) fun w6 hb6 => ?_;go_wp2_with fail;go_ret;exact ⟨_, rfl, congrArg (Value.int .i64) U.out.symm, (zbt G hb6)⟩
    ·have U := hid (J.out (by rw [O.out, if_neg (fun h => hlt2 h.2)]))
     have hc : ¬ cmpQ L Q < 0 := fun h => hlt2 (q.1 h);generalize cmpQ L Q = cz at *;generalize RS L = s2 at *;clear O J Z q;go_wp2_with fail;refine zR (h3.out w5 (n.below G)) fun w6 hb6 => ?_;have hp := zbt G hb6;go_wp2_with fail;go_roundw
     case rel => exact ⟨i + 1, by go_num, by omega, U, hp⟩
     case measure =>
      show l.length - ((i : Int) + 1).toNat < l.length - (i : Int).toNat;omega
  ·obtain rfl : i = l.length := by omega
   have U : Hid (Y = 0) := by unfold Hid; rw [h4.out]; exact fEn HJ.out
   have hC : ¬ (l.length : Int) < (l.length : Int) := by omega
   go_wp2_with fail;go_ret;exact ⟨_, rfl, congrArg (Value.int .i64) U.out.symm, N⟩
theorem ch0 (w : World) (v : Value) (l : List LayQ) (h : RdLy w v l) (U : l.length <= 1000) (S : ∀ x ∈ l, sLL x) (O : Good w) :
 Calls Tryz.prog 70 #[v] w (Ret (fun r Q => (colE l ≠ 0 /\ r = .tuple #[.slice none 0 0, .int .i64 (colE l)]) \/ (colE l = 0 /\ ∃ u, r = .tuple #[u, .int .i64 0] /\ Q.ownsRow w.heap.size 9 1 u l.length (l.map fun x => Value.string x.1))) w) := by
 have Y := hid (cj0 w v l h U S O);have X : Hid (∀ w', Below w.heap.size w w' -> _) := fun w' hb => nc0 w' v l (h.below hb) U;obtain ⟨p, c, rfl, -, -⟩ := h.shape;generalize colE l = ce at *;clear h S;by_cases he : ce = 0
 ·subst he
  go_enter Tryz.func70, Tryz.ntmps70;go_wp2_with fail;refine Y.out.mono ?_;rintro e R ⟨_, rfl, rfl, Z⟩;go_wp2_with fail;refine (X.out R Z).mono ?_;rintro e Q ⟨u, rfl, N, V⟩;go_wp2_with fail;go_ret2;exact ⟨_, rfl, .inr ⟨by first | rfl | trivial, _, rfl, oRb N Z.size⟩, (zbt Z V)⟩
 ·have M : (ce != 0) = true := by rw [bne_iff_ne]; exact he
  go_enter Tryz.func70, Tryz.ntmps70;go_wp2_with fail;refine Y.out.mono ?_;rintro e R ⟨_, rfl, rfl, Z⟩;go_wp2_with fail;go_ret2;exact ⟨_, rfl, .inl ⟨he, rfl⟩, Z⟩
def OwnD (w : World) (base : Nat) (v1 v2 v3 : Value) (B : List Rat) (U : List ByteArray) (S : List (List Rat)) : Prop :=
 FldV w base v1 B /\ w.ownsRow base 9 1 v2 U.length (U.map fun x => Value.string x) /\ FlsV 33 w base v3 S
structure DepN (w : World) (vp vt vb vu vs : Value) (P : List PtQ) (T : List Tri) (k : Nat) (B : List Rat) (U : List ByteArray) (S : List (List Rat)) : Prop where
 p : RdP w vp (strP P)
 t : RdT w vt T
 m : MeshOK P T k
 base : RdQ w vb B
 unit : RdS w vu U
 surf : RdF w vs S
 fl : ∀ F ∈ B :: S, F.length = P.length
 fs : ∀ F ∈ B :: S, ∀ q ∈ F, Sz k q
 ul : U.length = S.length + 1
 u60 : U.length <= 60
 ok : depE P T (B.map RS) U (S.map fun F => F.map RS) = 0
theorem DepN.below {w w' : World} {vp vt vb vu vs : Value} {P : List PtQ} {T : List Tri} {k : Nat} {B : List Rat} {U : List ByteArray} {S : List (List Rat)} (h : DepN w vp vt vb vu vs P T k B U S) (Z : Below w.heap.size w w') : DepN w' vp vt vb vu vs P T k B U S :=
 ⟨RdC.below h.p Z, RdC.below h.t Z, h.m, RdC.below h.base Z, RdC.below h.unit Z, h.surf.below Z, h.fl, h.fs, h.ul, h.u60, h.ok⟩
theorem DepN.toT {w : World} {vp vt vb vu vs : Value} {P : List PtQ} {T : List Tri} {k : Nat} {B : List Rat} {U : List ByteArray} {S : List (List Rat)} (h : DepN w vp vt vb vu vs P T k B U S) : DepT w vp vt vb vu vs P T k (B.map RS) U (S.map fun F => F.map RS) := by
 have Z : ∀ F ∈ B.map RS :: S.map (fun F => F.map RS), ∃ R ∈ B :: S, F = R.map RS := fun F hF => by
  rcases List.mem_cons.1 hF with rfl | X
  ·exact ⟨B, by simp, rfl⟩
  ·obtain ⟨R, Y, rfl⟩ := List.mem_map.1 X
   exact ⟨R, List.mem_cons_of_mem _ Y, rfl⟩
 refine ⟨h.p, h.t, fun _ => h.m, h.base.toS, h.unit, h.surf.toTx, fun F hF => ?_, fun F hF _ => ?_⟩
 ·obtain ⟨R, Y, rfl⟩ := Z F hF
  refine ⟨sok h.m.kpos h.m.klim2 (h.fs R Y), ?_⟩;rw [List.length_map, h.fl R Y];have := h.m.plen;omega
 ·obtain ⟨R, Y, rfl⟩ := Z F hF
  exact ⟨R, rfl, h.fl R Y, h.fs R Y⟩
theorem DepN.open {w : World} {vp vt vb vu vs : Value} {P : List PtQ} {T : List Tri} {k : Nat} {B : List Rat} {U : List ByteArray} {S : List (List Rat)} (h : DepN w vp vt vb vu vs P T k B U S) :
 ∃ Q Y N X R Z M V O cs, vp = .slice Q P.length Y /\ vt = .slice N T.length X /\ vb = .slice R P.length Z /\ vu = .slice M U.length V /\ vs = .slice O S.length cs := by
 obtain ⟨Q, Y, L, -, -, -⟩ := h.p.open;obtain ⟨N, X, J, -, -, -⟩ := h.t.open;obtain ⟨R, Z, K, -, -, -⟩ := h.base.open;obtain ⟨M, V, I, -, -, -⟩ := h.unit.open;obtain ⟨O, cs, H, -, -⟩ := h.surf.shape;rw [sPl] at L;rw [h.fl B (by simp)] at K;exact ⟨Q, Y, N, X, R, Z, M, V, O, cs, L, J, K, I, H⟩
def fldN (B : List Rat) (S : List (List Rat)) (n : Nat) : List Rat := (B :: S)[n]?.getD []
theorem fNm (B : List Rat) (S : List (List Rat)) {i : Nat} (h : i <= S.length) : fldN B S i ∈ B :: S := by
 unfold fldN;rw [List.getElem?_eq_getElem (by simp; omega)];exact List.getElem_mem _
theorem fTm (B : List Rat) (S : List (List Rat)) (n : Nat) : fldT (B.map RS) (S.map fun F => F.map RS) n = (fldN B S n).map RS := by
 unfold fldT fldN;rw [<- List.map_cons (f := fun F : List Rat => F.map RS), List.getElem?_map];cases (B :: S)[n]? <;> rfl
theorem DepN.surface {w : World} {vp vt vb vu vs : Value} {P : List PtQ} {T : List Tri} {k : Nat} {B : List Rat} {U : List ByteArray} {S : List (List Rat)} (h : DepN w vp vt vb vu vs P T k B U S) (n : Nat) (X : n <= S.length) :
 ∃ p c, RdQ w (.slice p P.length c) (fldN B S n) /\ ∀ w', Below w.heap.size w w' -> Calls Tryz.prog 48 #[.agg #[vb, vu, vs], .int .i64 (n : Int)] w' (Ret (fun r _ => r = .slice p P.length c) w') := by
 obtain ⟨p, c, Z, Y⟩ := sh0 w vb vu vs _ U _ h.toT.base h.unit h.toT.surf n (by rw [List.length_map]; exact X);rw [fTm, List.length_map, h.fl _ (fNm B S X)] at Z Y;exact ⟨p, c, rSt Z, Y⟩
theorem ih0 (q : Rat) (w : World) :
 Calls Tryz.prog 43 #[.string (RS q)] w (Ret (fun r _ => r = .bool (decide (q < 0))) w) := by
 by_cases h : q < 0
 ·have Y : Hid (∀ w, _) := fun w => rSn q h w
  rw [decide_eq_true h];generalize RS q = s at *;clear h;go_enter Tryz.func43, Tryz.ntmps43;go_wp2_with fail;refine zR (Y.out w) fun X Z => ?_;go_wp2_with fail;go_ret;exact ⟨_, rfl, rfl, Z⟩
 ·have Y : Hid (∀ w, _) := fun w => rc0 q h w
  rw [decide_eq_false h];generalize RS q = s at *;clear h;go_enter Tryz.func43, Tryz.ntmps43;go_wp2_with fail;refine (Y.out w).mono ?_;rintro e X ⟨_, rfl, ⟨z, rfl, V, U⟩, Z⟩;have S : decide (z < 0) = false := decide_eq_false (by omega);go_wp2_with fail;go_ret;exact ⟨_, rfl, rfl, Z⟩
def negF (F : List Rat) : Bool := F.any fun q => decide (q < 0)
theorem if0 (w : World) (v : Value) (l : List Rat) (L : RdQ w v l) (D : l.length <= 1000) :
 Calls Tryz.prog 81 #[v, .func (.func 43) #[] #[]] w (Ret (fun r _ => ∃ z : Int, r = .int .i64 z /\ decide (0 <= z) = negF l) w) := by
 obtain ⟨p, c, rfl, -, -, U⟩ := L.open;have J := hid U;clear L U;go_enter Tryz.func81, Tryz.ntmps81;go_wp2_with fail;go_loopw [5, 8] (fun _ t8 wr => ∃ i : Nat, t8 = .int .i64 i /\ i <= l.length /\ Hid (negF (l.take i) = false) /\ Below w.heap.size w wr) (fun _ t8 _ => l.length - (RowKit.intOf t8).toNat)
 case atStart => exact ⟨0, rfl, Nat.zero_le _, rfl, Below.refl _ _⟩
 case round =>
  obtain ⟨i, rfl, E, O, Y⟩ := hrel;rcases Nat.lt_or_ge i l.length with h | h
  ·obtain ⟨b, off, rfl, Q, M⟩ := J.out (List.ne_nil_of_length_pos (by omega))
   have I := zcq Y Q (M i h);have G : (i : Int) < (l.length : Int) := by omega
   have R : Hid (decide (l[i] < 0) = true -> negF l = true) := fun X => by
    unfold negF;rw [List.any_eq_true];exact ⟨l[i], List.getElem_mem _, X⟩
   have S : Hid (decide (l[i] < 0) = false -> negF (l.take (i + 1)) = false) := fun X => by
    have N := O.out;unfold negF at N ⊢;rw [List.take_succ_eq_append_getElem h, List.any_append, N];simp only [List.any_cons, List.any_nil, Bool.or_false, Bool.false_or];exact X
   have K : Hid (∀ w, _) := fun w => ih0 l[i] w;generalize decide (l[i] < 0) = nb at *;generalize l[i] = x at *;clear M;go_wp2_with fail;refine zR (K.out wr) fun w1 hb1 => ?_;have Z := zbt Y hb1;clear I hb1;cases nb
   ·have V := hid (S.out rfl)
    clear S R;go_wp2_with fail;go_roundw
    case rel => exact ⟨i + 1, by go_num, by omega, V, Z⟩
    case measure =>
     show l.length - ((i : Int) + 1).toNat < l.length - (i : Int).toNat;omega
   ·have V := hid (R.out rfl)
    clear S R;go_wp2_with fail;go_ret;exact ⟨_, rfl, ⟨_, rfl, by rw [V.out]; exact decide_eq_true (by omega)⟩, Z⟩
  ·have H : (l.length : Int) <= (i : Int) := by omega
   have V : Hid (negF l = false) := by have X := O.out; rw [List.take_of_length_le h] at X; exact X
   go_wp2_with fail;go_ret;exact ⟨_, rfl, ⟨_, rfl, by rw [V.out]; rfl⟩, Y⟩
theorem cNa (w : World) (v : Value) (l : List Rat) (Y : RdQ w v l) (V : l.length <= 1000) :
 Calls Tryz.prog 42 #[v, .func (.func 43) #[] #[]] w (Ret (fun r _ => r = .bool (negF l)) w) := by
 have X := hid (if0 w v l Y V);obtain ⟨p, c, rfl, -, -, -⟩ := Y.open;generalize negF l = nb at *;clear Y;go_enter Tryz.func42, Tryz.ntmps42;go_wp2_with fail;refine X.out.mono ?_;rintro e S ⟨_, rfl, ⟨z, rfl, U⟩, Z⟩;go_wp2_with fail;go_ret;exact ⟨_, rfl, rfl, Z⟩
end Go.Proofs.YtmcbeajdloaliaaGreatDoor
