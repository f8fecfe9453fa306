import Derived.Test.YtmcbeajdloaliaaGreatDoorZS44
/- Append of a row that may be nil slices.Backward over numbers The iterator stack.heights$1. stack.checkPlace. stack.At. stack.At at a place of the sheet. stack.Log -/
set_option maxHeartbeats 16000000
set_option maxRecDepth 100000
namespace Go.Proofs.YtmcbeajdloaliaaGreatDoor
open Go.RowKit Go.Lib Go.Shelf
def SrcR (w : World) (x' : Value) (m size : Nat) (news : List Value) : Prop := (x' = .slice none 0 0 /\ m = 0 /\ news = []) \/ ∃ ad c, x' = .slice (some ad) m c /\ news.length = m * size /\ ∀ j u, news[j]? = some u -> w.cell? (ad.add j) = some u
theorem obk {w : World} {base e sz n : Nat} {v : Value} {xs : List Value} (h : w.ownsRow base e sz v n xs) (Q : 0 < n) : ∃ g c, v = .slice (some ⟨g, 0, none⟩) n c /\ base <= g /\ g < w.heap.size /\ n <= c /\ c <= maxLen := by
 rcases h.2 with ⟨_, R⟩ | ⟨g, cap, Z, S, V, U, Y, X, _⟩
 ·omega
 ·exact ⟨g, cap, S, V, (Array.getElem?_eq_some_iff.1 U).1, Y, X⟩
theorem osc {w : World} {base e size n : Nat} {v : Value} {xs : List Value} (h : w.ownsRow base e size v n xs) : SrcR w v n size xs := by
 rcases h.2 with ⟨rfl, rfl⟩ | ⟨g, cap, Z, rfl, S, R, Y, X, V, U⟩
 ·exact .inl ⟨rfl, rfl, List.eq_nil_of_length_eq_zero (by rw [h.1]; omega)⟩
 ·exact .inr ⟨⟨g, 0, none⟩, cap, rfl, h.1, h.cells rfl⟩
theorem SrcR.below {w w' : World} {x' : Value} {m size : Nat} {news : List Value} (h : SrcR w x' m size news) (U : Below w.heap.size w w') : SrcR w' x' m size news := by
 rcases h with h | ⟨Z, c, X, V, Y⟩
 ·exact .inl h
 ·exact .inr ⟨Z, c, X, V, fun j u hu => (U.cell (p := Z.add j) (World.block_lt_of_cell? w _ (Y j u hu))).trans (Y j u hu)⟩
theorem was {P : Program} (w : World) {o : Oper} {a : Act} {K : Act -> World -> Prop} {Q : Exit -> Act -> World -> Prop} (s x : Operand) (t : TypeId)
 (E : o.op = .call { callee := .builtin .append, args := #[s, x], argTypes := #[t, t] })
 (base : Nat) (e : TypeId) (i : TypeInfo) (z : Value) (size bytes : Nat) (C : P.underlying t = some (.slice e)) (G : P.info? e = some i) (q : i.zero = some z)
 (R : i.size = size) (J : i.bytes = bytes) (H : z.cells.size = size) (I : 0 < size)
 (v : Value) (n : Nat) (M : List Value) (D : a.eval s = v) (Y : w.ownsRow base e size v n M)
 (B : Value) (m : Nat) (Z : List Value) (hx : a.eval x = B) (O : SrcR w B m size Z)
 (y : ∀ u ∈ Z, u.oneCell' = true) (L : n + m <= maxLen) (V : (n + m) * bytes <= 140737488355328) (U : base <= w.heap.size)
 (h : ∀ N w', w'.ownsRow base e size N (n + m) (M ++ Z) -> w.grownBy w' v.ownBlock -> K (a.put o.dst N) w') : Oper.wp P o a w K Q := by
 rcases O with ⟨rfl, rfl, rfl⟩ | ⟨A, c, rfl, r, S⟩
 ·have X := run_append_owned_none (P := P) (w := w) base t o.type e i size C (by rw [G]) v n M Y
  unfold Oper.wp;simp [execOp, E, resolve, invoke, builtin, D, hx, X, Result.andThen];exact h v w (by simpa using Y) (grl _ _)
 ·obtain ⟨N, w', X, p, l, _⟩ := run_append_own (P := P) w base t o.type e i z size bytes C G q R J H I v n M Y A m c Z r S y L V U
  unfold Oper.wp;simp [execOp, E, resolve, invoke, builtin, D, hx, X, Result.andThen];exact h N w' p l
theorem wLa {P : Program} (w : World) {ops : Array Oper} {rest : List Oper} {o : Oper} {a : Act} {Q : Exit -> Act -> World -> Prop} (N : o.guard = none) (s x : Operand) (t : TypeId)
 (G : o.op = .call { callee := .builtin .append, args := #[s, x], argTypes := #[t, t] })
 (base : Nat) (e : TypeId) (i : TypeInfo) (z : Value) (size bytes : Nat) (D : P.underlying t = some (.slice e)) (H : P.info? e = some i) (C : i.zero = some z)
 (V : i.size = size) (O : i.bytes = bytes) (L : z.cells.size = size) (M : 0 < size)
 (v : Value) (n : Nat) (J : List Value) (E : a.eval s = v) (U : w.ownsRow base e size v n J)
 (K : Value) (m : Nat) (Z : List Value) (hx : a.eval x = K) (S : SrcR w K m size Z)
 (I : ∀ u ∈ Z, u.oneCell' = true) (R : n + m <= maxLen) (Y : (n + m) * bytes <= 140737488355328) (X : base <= w.heap.size)
 (h : ∀ v' w', w'.ownsRow base e size v' (n + m) (J ++ Z) -> w.grownBy w' v.ownBlock -> wpList P ops Q rest (a.put o.dst v') w') : wpList P ops Q (o :: rest) a w :=
 wpList_plain N fun _ hK => was w s x t G base e i z size bytes D H C V O L M v n J E U K m Z hx S I R Y X fun v' w' a b => hK _ _ (h v' w' a b)
theorem aps (b o j : Nat) : (⟨b, o, none⟩ : Addr).add j = ⟨b, o + j, none⟩ := by
 simp only [Addr.add];split
 ·rename_i h; subst h; rfl
 ·rfl
section
variable {P : Program} {ops : Array Oper} {Q : Exit -> Act -> World -> Prop} {md : Region.Mode} {S : World -> Prop}
end
def FlsU (w : World) (R : Nat) (v : Value) (n : Nat) (S : List (List Rat)) : Prop :=
 S.length = n /\ ∃ us : List Value, us.length = n /\ w.ownsRow R 33 1 v n us /\ ∀ (i : Nat) (u : Value) (F : List Rat), us[i]? = some u -> S[i]? = some F -> FldV w 0 u F
theorem FlsU.below {w w' : World} {R : Nat} {v : Value} {n : Nat} {S : List (List Rat)} (h : FlsU w R v n S) (Z : Below w.heap.size w w') : FlsU w' R v n S := by
 obtain ⟨Y, us, X, V, U⟩ := h;exact ⟨Y, us, X, WRA V Z, fun i u F a b => (U i u F a b).below Z⟩
theorem FlsU.kept {w w' : World} {R b t n : Nat} {v : Value} {l : List Value} {S : List (List Rat)} (h : FlsU w R v n S) (V : w.grownBy w' (some b)) (X : BoxN w b t l) (Q : 33 ≠ t) (O : 55 ≠ t) : FlsU w' R v n S := by
 obtain ⟨U, us, N, Z, Y⟩ := h;exact ⟨U, us, N, World.ownsRow.kept Z V (.inr fun e => obN Z X Q e.symm), fun i u F a c => World.ownsRow.kept (Y i u F a c) V (.inr fun e => obN (Y i u F a c) X O e.symm)⟩
theorem FlsU.rd {w : World} {R n : Nat} {v : Value} {S : List (List Rat)} (h : FlsU w R v n S) : RdF w v S := by
 obtain ⟨Z, us, V, Y, X⟩ := h;subst Z;exact ⟨us, RdC.of_owns Y, fun i u F a b => (X i u F a b).rd⟩
theorem FlsU.shape {w : World} {R n : Nat} {v : Value} {S : List (List Rat)} (h : FlsU w R v n S) : ∃ p c, v = .slice p n c := by
 obtain ⟨Y, us, X, Z, V⟩ := h;exact oRs Z
theorem FlsU.snoc {w w' : World} {R n : Nat} {v v' u : Value} {S : List (List Rat)} {us : List Value} {F : List Rat} (Y : S.length = n) (X : us.length = n) (U : w.ownsRow R 33 1 v n us) (Q : ∀ (i : Nat) (u : Value) (F : List Rat), us[i]? = some u -> S[i]? = some F -> FldV w 0 u F)
 (O : w.grownBy w' v.ownBlock) (Z : w'.ownsRow R 33 1 v' (n + 1) (us ++ [u])) (N : FldV w 0 u F) : FlsU w' R v' (n + 1) (S ++ [F]) := by
 have key : ∀ {x F}, FldV w 0 x F -> FldV w' 0 x F := fun h => World.ownsRow.kept h O (oat h U (by decide))
 refine ⟨by rw [List.length_append, Y]; rfl, us ++ [u], by rw [List.length_append, X]; rfl, Z, fun i x G a b => ?_⟩;rcases Nat.lt_or_ge i n with h | h
 ·rw [List.getElem?_append_left (by omega)] at a
  rw [List.getElem?_append_left (by omega)] at b;exact key (Q i x G a b)
 ·have V := (List.getElem?_eq_some_iff.1 b).1
  rw [List.length_append] at V;obtain rfl : i = n := by simp at V; omega
  rw [List.getElem?_append_right (by omega), Y, Nat.sub_self] at b;rw [List.getElem?_append_right (by omega), X, Nat.sub_self] at a;simp at a b;subst a; subst b;exact key N
end Go.Proofs.YtmcbeajdloaliaaGreatDoor
namespace Go.Proofs.YtmcbeajdloaliaaGreatDoor
open Go.RowKit Go.Lib Go.Shelf
def eBR (xs : List Rat) (i : Nat) : Array Value := #[.int .i64 (i : Int), .string (RS ((xs[i]?).getD 0))]
abbrev IxR (xs : List Rat) := { i : Nat // i < xs.length }
theorem bb0 (a : Option Addr) (len cap : Nat) (w : World) :
 Calls Tryz.prog 66 #[.slice a len cap] w fun e w' => e = .returned (.func (.func 115) #[] #[.pointer (some ⟨w.heap.size, 0, none⟩)]) /\ w.alloc (.cells #[.slice a len cap] 32) = w' := by
 go_enter Tryz.func66, Tryz.ntmps66;go_wp2;go_ret;exact ⟨rfl, rfl⟩
def Keep3 (n₀ Bm : Nat) (A B : World) : Prop := Below n₀ A B /\ B.heap[Bm]? = A.heap[Bm]? /\ B.heap[Bm + 1]? = A.heap[Bm + 1]? /\ B.heap[Bm + 2]? = A.heap[Bm + 2]?
theorem Keep3.refl (n₀ Bm : Nat) (A : World) : Keep3 n₀ Bm A A := ⟨Below.refl _ _, rfl, rfl, rfl⟩
theorem Keep3.trans {n₀ Bm : Nat} {A B C : World} (h : Keep3 n₀ Bm A B) (k : Keep3 n₀ Bm B C) : Keep3 n₀ Bm A C := ⟨h.1.trans k.1, k.2.1.trans h.2.1, k.2.2.1.trans h.2.2.1, k.2.2.2.trans h.2.2.2⟩
theorem Keep3.of_below {n₀ Bm : Nat} {A B : World} (h : Below A.heap.size A B) (Y : n₀ <= A.heap.size) (Z : Bm + 2 < A.heap.size) : Keep3 n₀ Bm A B := ⟨h.mono Y, h.block _ (by omega), h.block _ (by omega), h.block _ Z⟩
theorem k3b {n₀ Bm : Nat} {w : World} (U : n₀ <= w.heap.size) (S : Bm + 2 < w.heap.size) (W : World) (l : Nat) (o Z : Obj) (V : w.heap.size <= l) (h : W.heap[l]? = some o) (Y : o.isCells = false) (X : o.isWalk = false) : Keep3 n₀ Bm W (W.putObj l Z) :=
 ⟨belowK_b U W l o Z V h Y X, World.putObj_heap_other (by omega), World.putObj_heap_other (by omega), World.putObj_heap_other (by omega)⟩
def encH (H : List Rat) (i : Nat) : Array Value := #[.int .i64 (i : Int), .string (RS ((H[i]?).getD 0))]
theorem hay (m d p : Value) (w : World) (M K N J L : Option Addr) (S Q U O R Y X Z V cs : Nat) (x y : ByteArray) (H : m = .agg #[.slice M S Y, .slice K Q X]) (I : d = .agg #[.slice N U Z, .slice J O V, .slice L R cs]) (G : p = .agg #[.string x, .string y]) :
 Calls Tryz.prog 65 #[m, d, p] w fun e w' => e = .returned (.func (.func 113) #[] #[.pointer (some ⟨w.heap.size + 1, 0, none⟩), .pointer (some ⟨w.heap.size, 0, none⟩), .pointer (some ⟨w.heap.size + 2, 0, none⟩)]) /\
  ((w.alloc (.cells #[.slice M S Y, .slice K Q X] 41)).alloc (.cells #[.slice N U Z, .slice J O V, .slice L R cs] 45)).alloc (.cells #[.string x, .string y] 73) = w' := by
 subst H I G;go_enter Tryz.func65, Tryz.ntmps65;go_wp2;go_ret;exact ⟨rfl, rfl⟩
theorem hC0 (n : Nat) (hn : 1 <= n) (l Bm : Nat) (U : World) (hg : Good U) (d b f a c : Option Addr) (Q g X h p o q m cs : Nat) (x y : ByteArray) (H : List Rat) (hH : H.length = X) (hd : X <= 1000) (fp : Nat -> Option Addr) (fc : Nat -> Nat)
 (h2 : Hid (∀ i, i < X -> ∀ w', Below U.heap.size U w' -> Calls Tryz.prog 48 #[.agg #[.slice f Q q, .slice a X m, .slice c h cs], .int .i64 (i : Int)] w' (Ret (fun r _ => r = .slice (fp i) Q (fc i)) w')))
 (h3 : Hid (∀ i, i < X -> ∀ w', Below U.heap.size U w' -> Good w' -> Calls Tryz.prog 114 #[.agg #[.slice d Q p, .slice b g o], .slice (fp i) Q (fc i), .agg #[.string x, .string y]] w' (Ret (fun r _ => r = .tuple #[.string (RS ((H[i]?).getD 0)), .int .i64 0]) w')))
 (J Jx : List (IxR H) -> World -> Prop) (W : World) (hJ : AbidesFrom W.heap.size J) (h6 : Below U.heap.size U W)
 (bm : BoxN W Bm 41 [.slice d Q p, .slice b g o]) (bd : BoxN W (Bm + 1) 45 [.slice f Q q, .slice a X m, .slice c h cs]) (bp : BoxN W (Bm + 2) 73 [.string x, .string y])
 (hY : ∀ pre x W, J pre W -> pre.length < X -> YieldAt Fence.wide (n - 1) Tryz.prog l (encH H x.1) W fun e W' =>
   (e = .returned (.bool true) /\ J (pre ++ [x]) W' /\ Keep3 U.heap.size Bm W W') \/ (e = .returned (.bool false) /\ Jx (pre ++ [x]) W'))
 (h0 : J [] W) :
 CallsIn Fence.wide n Tryz.prog 113 #[.func (.yield l) #[] #[], .pointer (some ⟨Bm + 1, 0, none⟩), .pointer (some ⟨Bm, 0, none⟩), .pointer (some ⟨Bm + 2, 0, none⟩)] W fun e W' => (∃ v, e = .returned v) /\
  ((∃ ys : List (IxR H), ys.map Subtype.val = List.range X /\ J ys W') \/ (∃ pre : List (IxR H), pre.map Subtype.val = List.range pre.length /\ Jx pre W')) := by
 have k1 := bd.cell 1 rfl;have HH := hid hH;clear hH;refine callsIn_of_wp Tryz.func113 rfl trivial ?_ rfl;simp only [Tryz.ntmps113, List.size_toArray, List.length_cons, List.length_nil, Nat.reduceAdd, Nat.reduceSub, Array.replicate_succ, Array.replicate_zero, List.push_toArray, List.append_toArray, List.nil_append, List.cons_append]
 gi_wp2
 gi_loopw [11] (fun i wr => ∃ k : Nat, k <= X /\ i = .int .i64 (k : Int) /\ (∃ pre : List (IxR H), pre.map Subtype.val = List.range k /\ J pre wr) /\ Keep3 U.heap.size Bm W wr)
  (fun i _ => (X - RowKit.intOf i).toNat)
 case atStart => exact ⟨0, Nat.zero_le _, rfl, ⟨[], rfl, h0⟩, Keep3.refl _ _ _⟩
 case round =>
  obtain ⟨k, hk, rfl, ⟨pre, V, K⟩, S⟩ := hrel;by_cases hlt : k < X
  ·have hc : (k : Int) < (X : Int) := by omega
   have cm : BoxN wr Bm 41 [.slice d Q p, .slice b g o] := S.2.1.trans bm;have cd : BoxN wr (Bm + 1) 45 [.slice f Q q, .slice a X m, .slice c h cs] := S.2.2.1.trans bd;have cq : BoxN wr (Bm + 2) 73 [.string x, .string y] := S.2.2.2.trans bp;have O : Below U.heap.size U wr := h6.trans S.1;obtain ⟨m0, m1⟩ := zk2 cm;obtain ⟨d0, d1, d2⟩ := zk3 cd;obtain ⟨p0, p1⟩ := zk2 cq;have hz := cq.lt;have he := cd.lt;have hf := cm.lt;have z : Good wr.drew := (hg.below O).drewN 1;have L : Below U.heap.size U wr.drew := O.trans ((bdN wr 1).mono O.size);have D := hid (h2.out k hlt);have C := hid (h3.out k hlt);have t : k < H.length := by have := HH.out; omega
   have M : Hid (∀ W, J pre W -> _) := fun W hj => hY pre ⟨k, t⟩ W hj (by have := congrArg List.length V; rw [List.length_map, List.length_range] at this; omega)
   have R : (pre ++ [(⟨k, t⟩ : IxR H)]).map Subtype.val = List.range (k + 1) := by rw [List.range_succ, List.map_append, V]; rfl
   have N := hid R;have h1 := hid K;dsimp only [encH] at M;generalize RS ((H[k]?).getD 0) = zs at *;clear V R K hY
   gi_wp2
   refine wpIn_wide.2 ?_;go_region_held3 (fun w' => w'.cell? ⟨Bm, 0, none⟩ = some (.slice d Q p) /\ w'.cell? ⟨Bm, 1, none⟩ = some (.slice b g o) /\ w'.cell? ⟨Bm + 1, 0, none⟩ = some (.slice f Q q) /\ w'.cell? ⟨Bm + 1, 1, none⟩ = some (.slice a X m) /\ w'.cell? ⟨Bm + 1, 2, none⟩ = some (.slice c h cs) /\ w'.cell? ⟨Bm + 2, 0, none⟩ = some (.string x) /\ w'.cell? ⟨Bm + 2, 1, none⟩ = some (.string y))
    (first | exact ⟨m0, m1, d0, d1, d2, p0, p1⟩ | exact ⟨p_1_0, p_1_1, p_1_2, p_1_3, p_1_4, p_1_5, p_1_6⟩ | exact ⟨p_2_0, p_2_1, p_2_2, p_2_3, p_2_4, p_2_5, p_2_6⟩)
    (first
    | (go_at_call 114; refine (C.out _ ((zbt L Z)) G).mono ?_; rintro e E ⟨_, rfl, rfl, Y⟩
       have p_2_0 := zct Y p_1_0;have p_2_1 := zct Y p_1_1;have p_2_2 := zct Y p_1_2;have p_2_3 := zct Y p_1_3;have p_2_4 := zct Y p_1_4;have p_2_5 := zct Y p_1_5;have p_2_6 := zct Y p_1_6;have ha := Y.size;have h8 := G.below Y)
    | (go_at_call 48; refine (D.out _ L).mono ?_; rintro e hb ⟨_, rfl, rfl, Z⟩
       have p_1_0 := zct Z m0;have p_1_1 := zct Z m1;have p_1_2 := zct Z d0;have p_1_3 := zct Z d1;have p_1_4 := zct Z d2;have p_1_5 := zct Z p0;have p_1_6 := zct Z p1;have h9 : wr.heap.size <= hb.heap.size := Z.size;have G := z.below Z))
   have I : Below wr.heap.size wr E := zbt (zbt (bdN wr 1) Z) Y;have A : wr.grownBy E none := ⟨I.os, I.tape, I.output, I.size, fun j hj _ => I.block j hj⟩;have h4 := hJ _ _ _ _ h1.out A (fun r e => by cases e);have s := S.trans (Keep3.of_below (Bm := Bm) I O.size hz);obtain ⟨fn, tmps, assign, body, hy, hR⟩ := M.out E h4;clear I Z Y h9 ha G h8 z L D C m0 m1 d0 d1 d2 p0 p1 M A
   gi_wp2
   refine hR.mono ?_;rintro e W3 (⟨rfl, h5, h7⟩ | ⟨rfl, B⟩)
   ·gi_wp2
    go_roundw
    case rel => exact ⟨k + 1, by omega, by go_num, ⟨_, N.out, h5⟩, s.trans h7⟩
    case measure => simp [RowKit.intOf]; omega
   ·gi_wp2
    refine bodyPost_ret (results_none rfl _ _ _) rfl ?_;have hl := congrArg List.length N.out;rw [List.length_map, List.length_range] at hl;exact ⟨⟨_, rfl⟩, .inr ⟨_, by rw [N.out, hl], B⟩⟩
  ·obtain rfl : k = X := by omega
   gi_wp2
   go_end0;exact ⟨⟨_, rfl⟩, .inl ⟨_, V, K⟩⟩
theorem ht0 (n : Nat) (q : 1 <= n) (Bm : Nat) (Y : World) (s : Good Y) (E C G B D : Option Addr) (X I Z K R Q S O cs : Nat) (x y : ByteArray) (H : List Rat) (t : H.length = Z) (L : Z <= 1000) (M : Nat -> Option Addr) (N : Nat -> Nat)
 (V : Hid (∀ i, i < Z -> ∀ w', Below Y.heap.size Y w' -> Calls Tryz.prog 48 #[.agg #[.slice G X S, .slice B Z O, .slice D K cs], .int .i64 (i : Int)] w' (Ret (fun r _ => r = .slice (M i) X (N i)) w')))
 (U : Hid (∀ i, i < Z -> ∀ w', Below Y.heap.size Y w' -> Good w' -> Calls Tryz.prog 114 #[.agg #[.slice E X R, .slice C I Q], .slice (M i) X (N i), .agg #[.string x, .string y]] w' (Ret (fun r _ => r = .tuple #[.string (RS ((H[i]?).getD 0)), .int .i64 0]) w')))
 (w : World) (hw : Below Y.heap.size Y w) (z : BoxN w Bm 41 [.slice E X R, .slice C I Q]) (A : BoxN w (Bm + 1) 45 [.slice G X S, .slice B Z O, .slice D K cs]) (v : BoxN w (Bm + 2) 73 [.string x, .string y]) :
 SeqStopsK Fence.wide n Tryz.prog 113 #[.pointer (some ⟨Bm + 1, 0, none⟩), .pointer (some ⟨Bm, 0, none⟩), .pointer (some ⟨Bm + 2, 0, none⟩)] (fun x : IxR H => encH H x.1) (Keep3 Y.heap.size Bm) (fun ys => ys.map Subtype.val = List.range Z) (fun pre => pre.map Subtype.val = List.range pre.length) Z w := fun l J Jx W hW hJ _ hY h0' =>
 hC0 n q l Bm Y s E C G B D X I Z K R Q S O cs x y H t L M N V U J Jx W hJ ((zbt hw hW)) (z.bl hW) (A.bl hW) (v.bl hW) hY h0'
theorem cPo (w : World) (s o t n q : Value) (P : List PtQ) (T : List Tri) (k : Nat) (B : List Rat) (U : List ByteArray) (S : List (List Rat)) (h : DepN w s o t n q P T k B U S) (p : PtQ) (z : Rat) (R : SzP 200 p) (E : Sz 200 z) (G : Good w) :
 Calls Tryz.prog 64 #[.agg #[s, o], .agg #[t, n, q], .agg #[.string (RS p.1), .string (RS p.2), .string (RS z)]] w (Ret (fun r _ => r = .int .i64 (if locN P T p T.length = [] then 28 else 0)) w) := by
 have Q : Hid (∀ w', Below w.heap.size w w' -> Good w' -> _) := fun w' hb hg' => sg0 w' _ _ _ _ _ P T k _ U _ (h.below hb).toT hg';rw [h.ok] at Q;have N : Hid (∀ w', Good w' -> _) := fun w' hg' => cVa (RS p.1) (RS p.2) (RS z) (by have := R.1.size (by omega); omega) (by have := R.2.size (by omega); omega) (by have := E.size (by omega); omega) w' hg'
 have v : eNm (allQ [RS p.1, RS p.2, RS z]) = 0 := by
  unfold allQ;simp only [List.all_cons, List.all_nil, Bool.and_true];rw [Rlt, Rlt, Rlt, rQR R.1, rQR R.2, rQR E];rfl
 rw [v] at N;have O : Hid (∀ w', Below w.heap.size w w' -> Good w' -> _) := fun w' hb hg' => cok w' _ _ P T k (h.below hb).p (h.below hb).t h.m p R hg';have A : decide ((0 : Int) < ((locN P T p T.length).length : Int)) = !decide (locN P T p T.length = []) := by
  cases locN P T p T.length with
  | nil => rfl
  | cons a l => simp
 rw [A] at O;have Z : Hid ((if locN P T p T.length = [] then (28 : Int) else 0) = if decide (locN P T p T.length = []) = true then 28 else 0) := by
  unfold Hid;by_cases hl : locN P T p T.length = [] <;> simp [hl]
 rw [Z.out];obtain ⟨D, I, C, H, f, m, d, j, e, cs, rfl, rfl, rfl, rfl, rfl⟩ := h.open;generalize decide (locN P T p T.length = []) = lb at *;generalize RS p.1 = x at *;generalize RS p.2 = y at *;generalize RS z = zz at *;clear h v A Z R E;go_enter Tryz.func64, Tryz.ntmps64;go_wp2_with fail;obtain ⟨W, K⟩ := zex (((w.alloc (.cells #[.slice D P.length I, .slice C T.length H] 41)).alloc (.cells #[.slice f P.length m, .slice d U.length j, .slice e S.length cs] 45)).alloc (.cells #[.string x, .string y, .string zz] 83));have J : Below w.heap.size w W := by rw [K]; exact (((Below.refl _ _).alloc (Nat.le_refl _) _).alloc (by simp) _).alloc (by simp; omega) _
 have M : BoxN W w.heap.size 41 [.slice D P.length I, .slice C T.length H] := by rw [K]; exact ((BoxN.new w #[.slice D P.length I, .slice C T.length H] 41 _ rfl).alloc _).alloc _
 have V : BoxN W (w.heap.size + 2) 83 [.string x, .string y, .string zz] := by rw [K]; exact BoxN.new _ #[.string x, .string y, .string zz] _ _ (by simp)
 rw [<- K];clear K;refine zR (Q.out _ J (G.below J)) fun w1 hb1 => ?_;have Y := zbt J hb1;replace M := M.bl hb1;replace V := V.bl hb1;obtain ⟨v0, v1, v2⟩ := zk3 V;clear hb1 J;go_wp2_with fail;refine zR (N.out _ (G.below Y)) fun w2 hb2 => ?_;have X := zbt Y hb2;replace M := M.bl hb2;replace V := V.bl hb2;clear v0 v1 v2 hb2 Y;obtain ⟨v0, v1⟩ := zk2 V;obtain ⟨i, g⟩ := zk2 M;go_wp2_with fail;refine zR (O.out _ X (G.below X)) fun w3 hb3 => ?_;have L := zbt X hb3;clear v0 v1 i g;cases lb
 ·go_wp2_with fail
  go_ret;exact ⟨_, rfl, rfl, L⟩
 ·go_wp2_with fail
  go_ret;exact ⟨_, rfl, rfl, L⟩
attribute [local go_sem] Oper.semAt_some
def unitL (U : List ByteArray) {H : List Rat} (pre : List (IxR H)) : ByteArray := match pre.getLast? with | some x => U[x.1]?.getD ⟨#[]⟩ | none => ⟨#[]⟩
theorem ub0 (U : List ByteArray) {H : List Rat} (pre : List (IxR H)) (x : IxR H) : unitL U (pre ++ [x]) = U[x.1]?.getD ⟨#[]⟩ := by unfold unitL; simp
def cHH (H : List Rat) (z : Rat) : Nat := (H.takeWhile fun q => decide (q <= z)).length
def uAt (U : List ByteArray) (H : List Rat) (z : Rat) : ByteArray := if cHH H z = 0 then ⟨#[]⟩ else U[cHH H z - 1]?.getD ⟨#[]⟩
theorem cHl (H : List Rat) (z : Rat) : cHH H z <= H.length := (List.takeWhile_prefix _).length_le
theorem cHa {H : List Rat} {z : Rat} (h : ∀ q ∈ H, q <= z) : cHH H z = H.length := by
 unfold cHH
 induction H with
 | nil => rfl
 | cons q H ih =>
   rw [List.takeWhile_cons_of_pos (by simpa using h q (by simp)), List.length_cons, ih (fun x hx => h x (List.mem_cons_of_mem _ hx)), List.length_cons]
theorem cn0 {H : List Rat} {z : Rat} {k : Nat} (V : k < H.length) (h : ∀ i (X : i < k), H[i] <= z) (Y : ¬ H[k] <= z) : cHH H z = k := by
 unfold cHH;have e : H = H.take k ++ H[k] :: H.drop (k + 1) := by rw [<- List.drop_eq_getElem_cons V, List.take_append_drop]
 have U : (H.take k).length = k := by rw [List.length_take]; omega
 have Z : (H.take k ++ H[k] :: H.drop (k + 1)).takeWhile (fun q => decide (q <= z)) = H.take k := by
  rw [List.takeWhile_append_of_pos (fun q hq => by
   obtain ⟨i, X, rfl⟩ := List.getElem_of_mem hq;rw [List.getElem_take];exact decide_eq_true (h i (by omega)))]
  rw [List.takeWhile_cons_of_neg (by simpa using Y), List.append_nil]
 rw [<- e] at Z;rw [Z, U]
theorem uLr {U : List ByteArray} {H : List Rat} {z : Rat} {pre : List (IxR H)} {k : Nat} (X : pre.map Subtype.val = List.range k) (V : cHH H z = k) : unitL U pre = uAt U H z := by
 have S : pre.length = k := by have := congrArg List.length X; rwa [List.length_map, List.length_range] at this
 unfold uAt unitL;rw [V];rcases Nat.eq_zero_or_pos k with Y | Y
 ·subst Y
  rw [List.length_eq_zero_iff.1 S]; rfl
 ·rw [if_neg (by omega)]
  obtain ⟨m, rfl⟩ : ∃ m, k = m + 1 := ⟨k - 1, by omega⟩;have Z : (pre.map Subtype.val).getLast? = some m := by rw [X, List.range_succ]; simp
  rw [List.getLast?_map] at Z;cases hg : pre.getLast? with
  | none => rw [hg] at Z; simp at Z
  | some x => rw [hg] at Z; simp at Z; simp [Z]
theorem bNk {W W' : World} {row : Option Nat} {b t : Nat} {l : List Value} (h : BoxN W b t l) (Z : W.grownBy W' row) (Y : ∀ r, row = some r -> ∃ o : Obj, W.heap[r]? = some o /\ o.isCells = false) : BoxN W' b t l := (grownBy_keeps_cells Z Y h rfl).trans h
end Go.Proofs.YtmcbeajdloaliaaGreatDoor
namespace Go.Proofs.YtmcbeajdloaliaaGreatDoor
open Go.RowKit Go.Lib Go.Shelf
attribute [local go_sem] Oper.semAt_some
theorem uAn {U : List ByteArray} {H : List Rat} {z : Rat} (V : H.length = U.length) (Y : ∀ u ∈ U, u ≠ ⟨#[]⟩) : (uAt U H z).toList.isEmpty = decide (cHH H z = 0) := by
 unfold uAt;by_cases h : cHH H z = 0
 ·rw [if_pos h, decide_eq_true h, btL]; rfl
 ·have S := cHl H z
  have Z : cHH H z - 1 < U.length := by omega
  have X := Y _ (List.getElem_mem Z);rw [if_neg h, decide_eq_false h, List.getElem?_eq_getElem Z, Option.getD_some, btL];generalize U[cHH H z - 1] = u at *;obtain ⟨a⟩ := u;cases ha : a.toList with
  | nil =>
    exfalso;apply X;have : a = #[] := Array.toList_eq_nil_iff.1 ha;rw [this]
  | cons b l => rfl
theorem at_in (n : Nat) (hn : 6 <= n) (w : World) (hg : Good w) (pp pt a v ps : Option Addr) (V nt b cp ct t C cs : Nat) (x y : ByteArray) (z : Rat) (U : List ByteArray) (H : List Rat) (hH : H.length = U.length) (hQ : U.length <= 1000) (hp : ∀ u ∈ U, u ≠ ⟨#[]⟩) (hU : RdS w (.slice v U.length C) U)
 (k : Nat) (hk : 0 < k) (hX : k <= 20000) (ho : ∀ q ∈ H, Sz k q) (hz : Sz k z) (fp : Nat -> Option Addr) (fc : Nat -> Nat)
 (hA : Hid (∀ w', Below w.heap.size w w' -> Good w' -> Calls Tryz.prog 64 #[.agg #[.slice pp V cp, .slice pt nt ct], .agg #[.slice a V t, .slice v U.length C, .slice ps b cs], .agg #[.string x, .string y, .string (RS z)]] w' (Ret (fun r _ => r = .int .i64 0) w')))
 (hG : Hid (∀ i, i < U.length -> ∀ w', Below w.heap.size w w' -> Calls Tryz.prog 48 #[.agg #[.slice a V t, .slice v U.length C, .slice ps b cs], .int .i64 (i : Int)] w' (Ret (fun r _ => r = .slice (fp i) V (fc i)) w')))
 (hL : Hid (∀ i, i < U.length -> ∀ w', Below w.heap.size w w' -> Good w' -> Calls Tryz.prog 114 #[.agg #[.slice pp V cp, .slice pt nt ct], .slice (fp i) V (fc i), .agg #[.string x, .string y]] w' (Ret (fun r _ => r = .tuple #[.string (RS ((H[i]?).getD 0)), .int .i64 0]) w'))) :
 CallsIn Fence.wide n Tryz.prog 30 #[.agg #[.slice pp V cp, .slice pt nt ct], .agg #[.slice a V t, .slice v U.length C, .slice ps b cs], .agg #[.string x, .string y, .string (RS z)]] w (Ret (fun r _ => r = .tuple #[.string (uAt U H z), .bool (decide (cHH H z = 0)), .int .i64 0]) w) := by
 have h1 : 1 <= n := by omega
 have HU := hid hU;have hf := hid hp;have hC := hid ho;have hN := hid hz;have I := hid hH;clear hU hp ho hz hH;refine callsIn_of_wp_marks Tryz.func30 rfl trivial ?_ rfl;simp only [Tryz.ntmps30, List.size_toArray, List.length_cons, List.length_nil, Nat.reduceAdd, Nat.reduceSub, Array.replicate_succ, Array.replicate_zero, List.push_toArray, List.append_toArray, List.nil_append, List.cons_append];gi_wp2_with fail;obtain ⟨W, hW⟩ := zex ((((w.alloc (.cells #[.slice pp V cp, .slice pt nt ct] 41)).alloc (.cells #[.slice a V t, .slice v U.length C, .slice ps b cs] 45)).alloc (.cells #[.string x, .string y, .string (RS z)] 83)).alloc (.cells #[.string ⟨#[]⟩] 9));have hB : Below w.heap.size w W := by rw [hW]; exact ((((Below.refl _ _).alloc (Nat.le_refl _) _).alloc (by simp) _).alloc (by simp; omega) _).alloc (by simp; omega) _
 have b3 : BoxN W w.heap.size 41 [.slice pp V cp, .slice pt nt ct] := by rw [hW]; exact (((BoxN.new w #[.slice pp V cp, .slice pt nt ct] 41 _ rfl).alloc _).alloc _).alloc _
 have b4 : BoxN W (w.heap.size + 1) 45 [.slice a V t, .slice v U.length C, .slice ps b cs] := by rw [hW]; exact ((BoxN.new _ #[.slice a V t, .slice v U.length C, .slice ps b cs] _ _ (by simp)).alloc _).alloc _
 have b5 : BoxN W (w.heap.size + 2) 83 [.string x, .string y, .string (RS z)] := by rw [hW]; exact (BoxN.new _ #[.string x, .string y, .string (RS z)] _ _ (by simp)).alloc _
 have b6 : BoxN W (w.heap.size + 3) 9 [.string ⟨#[]⟩] := by rw [hW]; exact BoxN.new _ #[.string ⟨#[]⟩] _ _ (by simp)
 rw [<- hW];clear hW;refine ⟨trivial, ?_⟩;refine CallsIn.mono (callsIn_wide.2 (hA.out W hB (hg.below hB))) ?_;rintro e w1 ⟨_, rfl, rfl, G⟩;have hP := zbt hB G;replace b3 := b3.bl G;replace b4 := b4.bl G;replace b5 := b5.bl G;replace b6 := b6.bl G;clear G hB;obtain ⟨m0, m1⟩ := zk2 b3;obtain ⟨d0, d1, d2⟩ := zk3 b4;obtain ⟨v0, v1⟩ := zk2 b5;have z9 := b6.lt;gi_wp2_with fail;refine ⟨trivial, ?_⟩;refine CallsIn.mono (callsIn_wide.2 (hay _ _ _ _ pp pt a v ps V nt V U.length b cp ct t C cs x y rfl rfl rfl)) ?_;rintro e w2 ⟨rfl, f⟩;have c1 : BoxN w2 w1.heap.size 41 [.slice pp V cp, .slice pt nt ct] := by rw [<- f]; exact ((BoxN.new w1 #[.slice pp V cp, .slice pt nt ct] _ _ rfl).alloc _).alloc _
 have c2 : BoxN w2 (w1.heap.size + 1) 45 [.slice a V t, .slice v U.length C, .slice ps b cs] := by rw [<- f]; exact (BoxN.new _ #[.slice a V t, .slice v U.length C, .slice ps b cs] _ _ (by simp)).alloc _
 have c3 : BoxN w2 (w1.heap.size + 2) 73 [.string x, .string y] := by rw [<- f]; exact BoxN.new _ #[.string x, .string y] _ _ (by simp)
 have R : Below w1.heap.size w1 w2 := by rw [<- f]; exact (((Below.refl _ _).alloc (Nat.le_refl _) _).alloc (by simp) _).alloc (by simp; omega) _
 have o := zbt hP R;replace b4 := b4.bl R;replace b5 := b5.bl R;replace b6 := b6.bl R;have za : w1.heap.size + 3 <= w2.heap.size := by have := c3.lt; omega
 clear f R b3 m0 m1 d0 d1 d2 v0 v1;gi_wp2_with fail;refine wpIn_rangeFunc_ownF rfl h1 (gf := 113) (lb := #[.pointer (some ⟨w1.heap.size + 1, 0, none⟩), .pointer (some ⟨w1.heap.size, 0, none⟩), .pointer (some ⟨w1.heap.size + 2, 0, none⟩)]) rfl trivial (enters_of Tryz.func113 (by kernel_rfl) rfl)
  (ht0 (n - 1) (by omega) w1.heap.size w hg pp pt a v ps V nt U.length b cp ct t C cs x y H I.out hQ fp fc hG hL w2 o c1 c2 c3) (fun h k => Keep3.trans h k) (k3b (by have := o.size; omega) (by omega)) (Below.refl _ _) (fun _ => rfl)
  (fun (pre : List (IxR H)) W => (BoxN W (w.heap.size + 1) 45 [.slice a V t, .slice v U.length C, .slice ps b cs] /\ BoxN W (w.heap.size + 2) 83 [.string x, .string y, .string (RS z)] /\ BoxN W (w.heap.size + 3) 9 [.string (unitL U pre)] /\ Hid (∀ q ∈ pre, H[q.1]'(q.2) <= z) /\ w2.heap.size <= W.heap.size) /\ Below w.heap.size w W)
  (fun c (pre : List (IxR H)) W => (∃ Z q, c = .exit 0 /\ pre = Z ++ [q] /\ w2.heap.size <= W.heap.size /\ BoxN W (w.heap.size + 3) 9 [.string (unitL U Z)] /\ Hid ((∀ q ∈ Z, H[q.1]'(q.2) <= z) /\ ¬ H[q.1]'(q.2) <= z)) /\ Below w.heap.size w W)
  (OwnFrom.and (Own.from (fun s A B row hs hg' hr => ⟨bNk hs.1 hg' hr, bNk hs.2.1 hg' hr, bNk hs.2.2.1 hg' hr, hs.2.2.2.1, Nat.le_trans hs.2.2.2.2 hg'.size⟩) _) (ownFrom_below (Nat.le_refl _) (by have := o.size; omega)))
  ?hIx
  ⟨⟨b4, b5, b6, fun q hq => absurd hq List.not_mem_nil, Nat.le_refl _⟩, o⟩
  ?a1 ?assign ?body ?done ?stop
 case hIx =>
  intro c;exact OwnFrom.and (Own.from (fun s A B row hs hg' hr => by obtain ⟨Z, q, e0, e1, e4, e2, e3⟩ := hs; exact ⟨Z, q, e0, e1, Nat.le_trans e4 hg'.size, bNk e2 hg' hr, e3⟩) _) (ownFrom_below (Nat.le_refl _) (by have := o.size; omega))
 case assign =>
  intro l x W K hK;dsimp only [encH]
  gi_wp2
  exact hK
 case body =>
  rintro l pre X W ⟨⟨c4, c5, N, HJ, d⟩, Q⟩ z7;have ht := X.2;have h2 : (H[X.1]?).getD 0 = H[X.1] := by rw [List.getElem?_eq_getElem ht]; rfl
  have he : Hid (∀ w', Good w' -> _) := fun w' hg' => rCa H[X.1] z k hk hX (hC.out _ (List.getElem_mem ht)) hN.out w' hg';rw [h2];generalize RS H[X.1] = hstr at *;have v2 := c5.cell 2 rfl;have hV := hg.below Q;have zc := N.lt;gi_wp2_with fail;refine ⟨trivial, by intro; omega, ?_⟩;refine CallsIn.mono (CallsIn.inRound l (callsIn_wide.2 (he.out W hV))) ?_;rintro e w3 ⟨_, rfl, rfl, S⟩;have M := zbt Q S;have hO := c4.bl S;have z2 := c5.bl S;have h0 := N.bl S;have h4 := ka0 S;clear v2 he h2;by_cases hle : H[X.1] <= z
  ·have hb := cQl hle
   have hT : decide (0 < cmpQ H[X.1] z) = false := decide_eq_false (by omega);have z4 : ¬ (0 < cmpQ H[X.1] z) := by omega
   have hF : Hid (∀ q ∈ pre ++ [X], H[q.1]'(q.2) <= z) := fun q hq => by
    rcases List.mem_append.1 hq with h5 | h5
    ·exact HJ.out q h5
    ·rw [List.mem_singleton] at h5; subst h5; exact hle
   have hw := ub0 U pre X;have hJ := hid hw;generalize cmpQ H[X.1] z = cz at *;have h3 : X.1 < U.length := by have := I.out; omega
   obtain ⟨bu, ou, z3, hY, hS, z5, L⟩ := HU.out.cells (by omega);injection hY with hv1 hv2 hv3
   subst hv1 hv3;have x0 := zcq M hS (L X.1 h3);have O : U[X.1]?.getD ⟨#[]⟩ = U[X.1] := by rw [List.getElem?_eq_getElem h3]; rfl
   have hh := hid O;generalize U[X.1] = un at *;have z6 : (X.1 : Int) < (U.length : Int) := by omega
   have d1 := hO.cell 1 rfl;have u0 := h0.cell 0 rfl;have zd := h0.frozen 0;clear L O hw hle hb;generalize hu : X.1 = jx at *;have z1 := hid hu;clear hu;gi_wp2_with fail;have zb := M.size;have z8 := S.size;have Y : ∀ j, j < W.heap.size -> j ≠ w.heap.size + 3 -> (w3.setCell ⟨w.heap.size + 3, 0, none⟩ (.string un)).heap[j]? = W.heap[j]? := fun j hj m => (Below.heap_setCell _ _ _ j (fun e => m e)).trans (S.block j hj);have hR : Below w.heap.size W (w3.setCell ⟨w.heap.size + 3, 0, none⟩ (.string un)) := (S.mono Q.size).setCell (p := ⟨w.heap.size + 3, 0, none⟩) (by show w.heap.size <= w.heap.size + 3; omega) _;refine ⟨h4.trans (KeepsOthers.setCell _ _ _), ⟨hR, Y _ (by omega) (by omega), Y _ (by omega) (by omega), Y _ (by omega) (by omega)⟩, ⟨⟨(Y _ (by have := c4.lt; omega) (by omega)).trans c4, (Y _ (by have := c5.lt; omega) (by omega)).trans c5, ?_, hF, by simp; omega⟩, M.setCell (p := ⟨w.heap.size + 3, 0, none⟩) (by show w.heap.size <= w.heap.size + 3; omega) _⟩⟩;rw [hJ.out, hh.out];exact h0.set 0 (.string un)
  ·have hb : 0 < cmpQ H[X.1] z := (cQp _ _).2 (Rat.not_le.1 hle)
   have hT : decide (0 < cmpQ H[X.1] z) = true := decide_eq_true hb;have hM : Hid ((∀ q ∈ pre, H[q.1]'(q.2) <= z) /\ ¬ H[X.1] <= z) := ⟨HJ.out, hle⟩;generalize cmpQ H[X.1] z = cz at *;gi_wp2_with fail;exact ⟨h4, ⟨pre, X, rfl, rfl, Nat.le_trans d S.size, h0, hM⟩, M⟩
 case done =>
  rintro D ys W hD hx ⟨⟨_, _, N, HJ, d⟩, Q⟩ hK;have J : cHH H z = U.length := by
   rw [<- I.out];refine cHa fun q hq => ?_;obtain ⟨i, hi, rfl⟩ := List.getElem_of_mem hq;have hm : i ∈ ys.map Subtype.val := by rw [hx]; exact List.mem_range.2 (by have := I.out; omega)
   obtain ⟨y, hy, rfl⟩ := List.mem_map.1 hm;exact HJ.out y hy
  have O := uLr (U := U) hx J;rw [O] at N;have h6 := hid (uAn (z := z) I.out hf.out);have x0 := N.cell 0 rfl;have z0 := N.frozen 0;have hZ := N.lt;generalize g : uAt U H z = un at *;have h7 := hid g;clear g;gi_wp2_with fail;have m : D ≠ w.heap.size + 3 := by omega
  have h9 : (W.setCell ⟨w.heap.size + 3, 0, none⟩ (.string un)).heap[D]? = some (.deferred (some [])) := by
   rw [Below.heap_setCell _ _ _ D m];exact hK
  have h8 := Q.setCell (p := ⟨w.heap.size + 3, 0, none⟩) (by show w.heap.size <= w.heap.size + 3; omega) (.string un);have r6 := N.set 0 (.string un);have hc := r6.lt;refine lms (B := w2.heap.size) ⟨[D], rfl, (by simp), fun E hE => by rw [List.mem_singleton] at hE; subst hE; exact ⟨hD, h9⟩⟩ fun w' hw' => ?_
  have q6 : BoxN w' (w.heap.size + 3) 9 [.string un] := (hw'.block _ (.inl (by omega)) hc).trans r6;have k0 := q6.cell 0 rfl;refine ⟨.tuple #[.string un, .bool un.toList.isEmpty, .int .i64 0], by simp [results, Tryz.results30, go_sem, k0], ?_⟩;refine ⟨_, rfl, by show _ = _; rw [h7.out, h6.out], h8.trans ((hw'.below (by simpa using d)).mono (by omega))⟩
 case stop =>
  rintro D c pre W hD ha ⟨⟨Z, q, rfl, rfl, d, N, HX⟩, Q⟩ hK;have hl : (Z ++ [q]).length = Z.length + 1 := by simp
  rw [hl, List.range_succ, List.map_append] at ha;obtain ⟨hd, hv⟩ := List.append_inj ha (by simp);have hq : q.1 = Z.length := by simpa using hv
  have J : cHH H z = Z.length := by
   refine cn0 (by have := q.2; omega) (fun i hi => ?_) ?_
   ·have hm : i ∈ Z.map Subtype.val := by rw [hd]; exact List.mem_range.2 hi
    obtain ⟨y, hy, rfl⟩ := List.mem_map.1 hm;exact HX.out.1 y hy
   ·have := HX.out.2
    simpa only [hq] using this
  have O := uLr (U := U) hd J;rw [O] at N;clear ha hd hv hl J O;have h6 := hid (uAn (z := z) I.out hf.out);have x0 := N.cell 0 rfl;have z0 := N.frozen 0;have hZ := N.lt;generalize g : uAt U H z = un at *;have h7 := hid g;clear g;gi_wp2_with fail;have m : D ≠ w.heap.size + 3 := by omega
  have h9 : (W.setCell ⟨w.heap.size + 3, 0, none⟩ (.string un)).heap[D]? = some (.deferred (some [])) := by
   rw [Below.heap_setCell _ _ _ D m];exact hK
  have h8 := Q.setCell (p := ⟨w.heap.size + 3, 0, none⟩) (by show w.heap.size <= w.heap.size + 3; omega) (.string un);have r6 := N.set 0 (.string un);have hc := r6.lt;refine lms (B := w2.heap.size) ⟨[D], rfl, (by simp), fun E hE => by rw [List.mem_singleton] at hE; subst hE; exact ⟨hD, h9⟩⟩ fun w' hw' => ?_
  have q6 : BoxN w' (w.heap.size + 3) 9 [.string un] := (hw'.block _ (.inl (by omega)) hc).trans r6;have k0 := q6.cell 0 rfl;refine ⟨.tuple #[.string un, .bool un.toList.isEmpty, .int .i64 0], by simp [results, Tryz.results30, go_sem, k0], ?_⟩;refine ⟨_, rfl, by show _ = _; rw [h7.out, h6.out], h8.trans ((hw'.below (by simpa using d)).mono (by omega))⟩
theorem at_ok (w : World) (o : Good w) (M K N X L : Option Addr) (Z O Q S R V Y cs : Nat) (x y : ByteArray) (z : Rat) (U : List ByteArray) (H : List Rat) (s : H.length = U.length) (B : U.length <= 1000) (A : ∀ u ∈ U, u ≠ ⟨#[]⟩) (p : RdS w (.slice X U.length Y) U)
 (k : Nat) (n : 0 < k) (v : k <= 20000) (C : ∀ q ∈ H, Sz k q) (t : Sz k z) (D : Nat -> Option Addr) (E : Nat -> Nat)
 (J : Hid (∀ w', Below w.heap.size w w' -> Good w' -> Calls Tryz.prog 64 #[.agg #[.slice M Z S, .slice K O R], .agg #[.slice N Z V, .slice X U.length Y, .slice L Q cs], .agg #[.string x, .string y, .string (RS z)]] w' (Ret (fun r _ => r = .int .i64 0) w')))
 (I : Hid (∀ i, i < U.length -> ∀ w', Below w.heap.size w w' -> Calls Tryz.prog 48 #[.agg #[.slice N Z V, .slice X U.length Y, .slice L Q cs], .int .i64 (i : Int)] w' (Ret (fun r _ => r = .slice (D i) Z (E i)) w')))
 (G : Hid (∀ i, i < U.length -> ∀ w', Below w.heap.size w w' -> Good w' -> Calls Tryz.prog 114 #[.agg #[.slice M Z S, .slice K O R], .slice (D i) Z (E i), .agg #[.string x, .string y]] w' (Ret (fun r _ => r = .tuple #[.string (RS ((H[i]?).getD 0)), .int .i64 0]) w'))) :
 Calls Tryz.prog 30 #[.agg #[.slice M Z S, .slice K O R], .agg #[.slice N Z V, .slice X U.length Y, .slice L Q cs], .agg #[.string x, .string y, .string (RS z)]] w (Ret (fun r _ => r = .tuple #[.string (uAt U H z), .bool (decide (cHH H z = 0)), .int .i64 0]) w) :=
 callsIn_wide.1 (at_in 6 (by omega) w o M K N X L Z O Q S R V Y cs x y z U H s B A p k n v C t D E J I G)
end Go.Proofs.YtmcbeajdloaliaaGreatDoor
namespace Go.Proofs.YtmcbeajdloaliaaGreatDoor
open Go.RowKit Go.Lib Go.Shelf
theorem sid {α : Type} {p : List α -> Prop} (Z : p []) (Y : ∀ l a, p l -> p (l ++ [a])) (l : List α) : p l := by
 rw [<- List.reverse_reverse l]
 induction l.reverse with
 | nil => exact Z
 | cons a t ih => rw [List.reverse_cons]; exact Y _ _ ih
structure Itv where
 unit : ByteArray
 fro : Rat
 til : Rat
instance : DecidableEq Itv := fun a b => decidable_of_iff (a.unit = b.unit /\ a.fro = b.fro /\ a.til = b.til) ⟨fun h => by
 obtain ⟨u, f, t⟩ := a;obtain ⟨u', f', t'⟩ := b;obtain ⟨rfl, rfl, rfl⟩ := h;rfl, fun h => by rw [h]; exact ⟨rfl, rfl, rfl⟩⟩
def cp0 (c : Itv) : List Value := [.string c.unit, .string (RS c.fro), .string (RS c.til)]
def cIv (l : List Itv) : List Value := l.flatMap cp0
theorem cIs (l : List Itv) (c : Itv) : cIv (l ++ [c]) = cIv l ++ [.string c.unit, .string (RS c.fro), .string (RS c.til)] := by simp [cIv, cp0]
def lSp (U : List ByteArray) (H : List Rat) (z : Rat) (s : List Itv × Rat) (i : Nat) : List Itv × Rat :=
 if (H[i]?.getD 0) < s.2 then (s.1 ++ [⟨U[i]?.getD ⟨#[]⟩, z - s.2, z - (H[i]?.getD 0)⟩], H[i]?.getD 0) else s
def logTo (U : List ByteArray) (H : List Rat) (z : Rat) (l : List Nat) : List Itv × Rat := l.foldl (lSp U H z) ([], z)
def logL (U : List ByteArray) (H : List Rat) (z : Rat) : List Itv := (logTo U H z (bwd H.length H.length)).1
theorem lTs (U : List ByteArray) (H : List Rat) (z : Rat) (l : List Nat) (i : Nat) : logTo U H z (l ++ [i]) = lSp U H z (logTo U H z l) i := by unfold logTo; rw [List.foldl_append]; rfl
theorem lTl (U : List ByteArray) (H : List Rat) (z : Rat) (l : List Nat) : (logTo U H z l).1.length <= l.length := by
 refine sid (p := fun l => (logTo U H z l).1.length <= l.length) (Nat.le_refl _) (fun l i ih => ?_) l;rw [lTs];unfold lSp;split
 ·rw [List.length_append, List.length_append]; simp; exact ih
 ·rw [List.length_append]; omega
theorem lTS {U : List ByteArray} {H : List Rat} {z : Rat} {k : Nat} (Y : 0 < k) (Z : ∀ q ∈ H, Sz k q) (X : Sz k z) (l : List Nat) : Sz k (logTo U H z l).2 := by
 refine sid (p := fun l => Sz k (logTo U H z l).2) X (fun l i ih => ?_) l;rw [lTs];unfold lSp;split
 ·show Sz k (H[i]?.getD 0)
  cases hi : H[i]? with
  | none => exact Sz.zero _ Y
  | some q => exact Z q (List.mem_of_getElem? hi)
 ·exact ih
theorem okt {W W' : World} {row : Option Nat} {B e s n : Nat} {v : Value} {xs : List Value} (h : W.ownsRow B e s v n xs) (S : W.grownBy W' row) (R : ∀ r, row = some r -> ∃ o : Obj, W.heap[r]? = some o /\ o.isCells = false) : W'.ownsRow B e s v n xs := by
 refine World.ownsRow.kept h S ?_;obtain ⟨O, V⟩ := h;rcases V with ⟨rfl, Q⟩ | ⟨g, cap, X, rfl, N, Z, _⟩
 ·exact .inl rfl
 ·refine .inr (fun e => ?_)
  obtain ⟨o, Y, U⟩ := R g e.symm;rw [Z] at Y;cases Y;cases U
theorem aof (a : Act) : ∀ (Z : List (Nat × Value)) (a0 : Act), a.tmps.size = a0.tmps.size -> a.defers = a0.defers -> (∀ s, (∀ p ∈ Z, p.1 ≠ s) -> a.eval (.tmp s) = a0.eval (.tmp s)) -> (∀ p ∈ Z, a.eval (.tmp p.1) = p.2) -> (∀ p ∈ Z, p.1 < a0.tmps.size) -> a = Z.foldl (fun b p => b.put (some p.1) p.2) a0
 | [], a0, h1, h2, h3, _, _ => by
   obtain ⟨t, d⟩ := a;obtain ⟨X, V⟩ := a0;simp only at h1 h2;subst h2;have e : t = X := by
    refine Array.ext h1 fun i hi hi0 => ?_;have Y := h3 i (fun p hp => absurd hp List.not_mem_nil);simpa [Act.eval, hi, hi0] using Y
   rw [e]; rfl
 | (q, u) :: Z, a0, h1, h2, h3, h4, Y => by
   rw [List.foldl_cons];refine aof a Z (a0.put (some q) u) (by rw [pte]; exact h1) (by rw [pds]; exact h2) (fun s hs => ?_) (fun p hp => h4 p (List.mem_cons_of_mem _ hp)) (fun p hp => by rw [pte]; exact Y p (List.mem_cons_of_mem _ hp));by_cases hq : q = s
   ·subst hq
    rw [eps (Y (q, u) (by simp))];exact h4 (q, u) (by simp)
   ·rw [epo hq]
    refine h3 s (fun p hp => ?_);rcases List.mem_cons.1 hp with rfl | h
    ·exact hq
    ·exact hs p h
def C14 (W : World) (L : List Value) (listed : Array Bool) (a : Act) (X : World) : Prop :=
 Below W.heap.size W X /\ (listed.getD 14 false = true -> ∃ b, W.heap.size <= b /\ a.eval (.tmp 16) = .pointer (some ⟨b, 0, none⟩) /\ BoxN X b 99 (if listed.getD 15 false = true then L else [.string ⟨#[]⟩, .string ⟨#[]⟩, .string ⟨#[]⟩]))
theorem C14.put {W X X' : World} {L : List Value} {listed : Array Bool} {a : Act} (h : C14 W L listed a X) (Z : Below X.heap.size X X') (i d : Nat) (v : Value) (S : i ≠ 14) (R : i ≠ 15) (Q : d ≠ 16) : C14 W L (listed.setIfInBounds i true) (a.put (some d) v) X' := by
 refine ⟨(zbt h.1 Z), fun hl => ?_⟩;rw [ga0 _ _ _ S] at hl;obtain ⟨b, Y, V, U⟩ := h.2 hl;refine ⟨b, Y, (epo Q).trans V, ?_⟩;rw [ga0 _ _ _ R];exact U.bl Z
theorem osk {K : Nat} {W W' : World} {B e s n : Nat} {v : Value} {xs : List Value} (h : W.ownsRow B e s v n xs) (Q : Struck K W W') : W'.ownsRow B e s v n xs := by
 obtain ⟨V, U⟩ := h;refine ⟨V, ?_⟩;rcases U with ⟨rfl, X⟩ | ⟨g, cap, Y, rfl, R, Z, S⟩
 ·exact .inl ⟨rfl, X⟩
 ·exact .inr ⟨g, cap, Y, rfl, R, (Q.block g (.inr fun l e => by rw [Z] at e; cases e) (Array.getElem?_eq_some_iff.1 Z).1).trans Z, S⟩
theorem iIv : (Tryz.prog.info? 99).map (fun i => (i.zero, i.size, i.bytes)) = some (some (.agg #[.string ⟨#[]⟩, .string ⟨#[]⟩, .string ⟨#[]⟩]), 3, 48) := by kernel_rfl
theorem wIc {F : Fence} {n : Nat} {P : Program} {Q : Exit -> Act -> World -> Prop} {o : Oper} {a : Act} {w w' : World} {K : Act -> World -> Prop} {f : FuncId} {args : Array Value} (X : ∀ c, o.op ≠ .defer c)
 (V : ∀ f, o.about P w a.eval = some f -> F.fn f) (U : (execOp a.eval o).run P w = .ok (.enter f args) w')
 (Y : (F.depth.isSome = true -> 1 <= n) /\ CallsIn F (n - 1) P f args w' fun e Z => ∃ v, e = .returned v /\ K (a.put o.dst v) Z) : o.wpIn F n P a w K Q := by
 refine ⟨V, ?_⟩;rw [Oper.semAt_eq _ _ _ X, U, Oper.uponIn_enter];refine ⟨Y.1, Y.2.mono ?_⟩;rintro e Z ⟨v, rfl, h⟩;exact h
def Keep2 (b Bs : Nat) (A B : World) : Prop := B.heap[b]? = A.heap[b]? /\ B.heap[Bs]? = A.heap[Bs]?
theorem Keep2.trans {b Bs : Nat} {A B C : World} (h : Keep2 b Bs A B) (k : Keep2 b Bs B C) : Keep2 b Bs A C := ⟨k.1.trans h.1, k.2.trans h.2⟩
theorem k2b {b Bs : Nat} {w : World} (X : b < w.heap.size) (Y : Bs < w.heap.size) (W : World) (l : Nat) (o Z : Obj) (V : w.heap.size <= l) (_h : W.heap[l]? = some o) (_h1 : o.isCells = false) (_h2 : o.isWalk = false) : Keep2 b Bs W (W.putObj l Z) :=
 ⟨World.putObj_heap_other (by omega), World.putObj_heap_other (by omega)⟩
theorem bRi (n : Nat) (h : 1 <= n) (l S b : Nat) (c : Nat) (Z : List Rat)
 (B : Z.length <= 1000000) (J E : List (IxR Z) -> World -> Prop)
 (s : ∀ pre x W, J pre W -> pre.length < Z.length -> YieldAt Fence.wide (n - 1) Tryz.prog l (eBR Z x.1) W fun e W' =>
   (e = .returned (.bool true) /\ J (pre ++ [x]) W' /\ Keep2 b S W W') \/ (e = .returned (.bool false) /\ E (pre ++ [x]) W'))
 (W : World) (R : W.cell? ⟨S, 0, none⟩ = some (.slice (some ⟨b, 0, none⟩) Z.length c))
 (C : ∀ (i : Nat) (M : i < Z.length), W.cell? ⟨b, 0 + i, none⟩ = some (.string (RS Z[i]))) (y : J [] W) :
 CallsIn Fence.wide n Tryz.prog 115 #[.func (.yield l) #[] #[], .pointer (some ⟨S, 0, none⟩)] W fun e W' => (∃ v, e = .returned v) /\
  ((∃ ys : List (IxR Z), ys.map Subtype.val = bwd Z.length Z.length /\ J ys W') \/ (∃ pre, True /\ E pre W')) := by
 refine callsIn_of_wp Tryz.func115 rfl trivial ?_ rfl;simp only [Tryz.ntmps115, List.size_toArray, List.length_cons, List.length_nil, Nat.reduceAdd, Nat.reduceSub, Array.replicate_succ, Array.replicate_zero, List.push_toArray, List.append_toArray, List.nil_append, List.cons_append];obtain ⟨m, H⟩ : ∃ m, Z.length = m := ⟨_, rfl⟩;have A := hid H;have q : Z.length <= m := by omega
 have p : m <= Z.length := by omega
 rw [H] at R;clear H
 gi_wp2
 gi_loopw [3] (fun i wr => ∃ k : Nat, k <= m /\ i = .int .i64 ((m : Int) - 1 - (k : Int)) /\ (∃ pre : List (IxR Z), pre.map Subtype.val = bwd m k /\ J pre wr) /\ Keep2 b S W wr)
  (fun i _ => (RowKit.intOf i + 1).toNat)
 case atStart => exact ⟨0, Nat.zero_le _, by simp, ⟨[], rfl, y⟩, rfl, rfl⟩
 case round =>
  obtain ⟨k, j, rfl, ⟨pre, Y, V⟩, U⟩ := hrel;by_cases hlt : k < m
  ·obtain ⟨i, M⟩ := zex (m - 1 - k)
   have G := hid M;have L : i < Z.length := by omega
   have O : wr.cell? ⟨b, 0 + i, none⟩ = some (.string (RS Z[i])) := (World.cell?_of_block U.1).trans (C i L);rw [Nat.zero_add] at O;have r : wr.cell? ⟨S, 0, none⟩ = _ := (World.cell?_of_block U.2).trans R;obtain ⟨x, hx⟩ := zex (RS Z[i]);rw [<- hx] at O;have N : RS ((Z[i]?).getD 0) = x := by rw [hx]; simp [L]
   obtain ⟨fn, tmps, assign, body, hy, t⟩ := s pre ⟨i, L⟩ wr V (by have := congrArg List.length Y; rw [List.length_map, blh] at this; omega);dsimp only [eBR] at hy;rw [N] at hy;have D : (m : Int) - 1 - (k : Int) = (i : Int) := by omega
   rw [D];have X : (pre ++ [(⟨i, L⟩ : IxR Z)]).map Subtype.val = bwd m (k + 1) := by rw [bsc, <- M, List.map_append, Y]; rfl
   have z := hid X;clear C D M V hx X N Y;have f1 : (0 : Int) <= (i : Int) := by omega
   have f2 : (i : Int) < (m : Int) := by have := G.out; omega
   gi_wp2
   refine t.mono ?_;rintro e o (⟨rfl, K, I⟩ | ⟨rfl, Q⟩)
   ·gi_wp2
    go_roundw
    case rel => exact ⟨k + 1, by omega, congrArg (Value.int .i64) (by have := G.out; omega), ⟨_, z.out, K⟩, U.trans I⟩
    case measure => simp [RowKit.intOf]
   ·gi_wp2
    refine bodyPost_ret (results_none rfl _ _ _) rfl ?_;exact ⟨⟨_, rfl⟩, .inr ⟨_, trivial, Q⟩⟩
  ·obtain rfl : k = m := by omega
   gi_wp2
   go_end0;exact ⟨⟨_, rfl⟩, .inl ⟨_, by rw [Y, A.out], V⟩⟩
theorem bRs (n : Nat) (O : 1 <= n) (Y b c : Nat) (Z : List Rat) (X : Z.length <= 1000000) (w : World)
 (V : Y < w.heap.size) (R : b < w.heap.size) (Q : w.cell? ⟨Y, 0, none⟩ = some (.slice (some ⟨b, 0, none⟩) Z.length c))
 (N : ∀ (i : Nat) (S : i < Z.length), w.cell? ⟨b, 0 + i, none⟩ = some (.string (RS Z[i]))) :
 SeqStopsK Fence.wide n Tryz.prog 115 #[.pointer (some ⟨Y, 0, none⟩)] (fun x : IxR Z => eBR Z x.1) (Keep2 b Y) (fun ys => ys.map Subtype.val = bwd Z.length Z.length) (fun _ => True) Z.length w := fun l J Jx W U _ _ hY h0' =>
 bRi n O l Y b c Z X J Jx hY W ((zcq U V Q :)) (fun i S => (zcq U R (N i S) :)) h0'
end Go.Proofs.YtmcbeajdloaliaaGreatDoor
