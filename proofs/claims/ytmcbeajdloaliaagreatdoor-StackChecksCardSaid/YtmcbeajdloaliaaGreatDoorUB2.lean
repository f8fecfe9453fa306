import Derived.Shelf.Strings.BuilderK
import Derived.Lib.FrozenHead2
import Derived.Test.YtmcbeajdloaliaaGreatDoorShelf
import Derived.Test.YtmcbeajdloaliaaGreatDoorUB1
import Derived.Lib.AppendIntMem
import Derived.Lib.SmallJoins
import Derived.RangeFuncNested
import Derived.RangeFuncBound
import Derived.RangeFuncCalls
import Derived.RangeFuncBox
import Derived.RangeFuncLeaves
import Derived.Shelf.Abstract
import Derived.OwnWalkIn
import Derived.TacticsInMore
import Derived.LoopNIn
import Derived.LoopIn
import Derived.OrdersIn
/- Strings.Builder, strconv, strings, slices.Backward, integer.close; regions that draw their order. -/
set_option maxHeartbeats 4000000
set_option maxRecDepth 100000
namespace Go.Proofs.YtmcbeajdloaliaaGreatDoor
open Go.RowKit
def BTo (B b : Nat) (bs : List Value) (w w' : World) : Prop :=
 Lib.BuilderAtF 203 5 B b (.pointer (some ⟨b, 0, none⟩)) bs w' /\ Below B w w' /\ Lib.OthersKept 5 (some b) w w'
theorem bc0 : (Tryz.prog.info? 203).map (·.size) = some 2 := by kernel_rfl
theorem bls : liesAt Tryz.prog Tryz.prog.depth 203 (2 / Tryz.prog.cellsOf 203) 0 203 1 = true := by kernel_rfl
theorem bio : (Tryz.prog.info? 5).map (fun i => (i.zero, i.size, i.bytes)) = some (some (.int .u8 0), 1, 1) := by kernel_rfl
theorem bnb : (203 : Nat) ≠ 5 := by decide
theorem cCa (B b : Nat) (V : List Value) (w : World) (h : Lib.IsBuilderF 203 5 B b V w) :
 Calls Tryz.prog 176 #[.pointer (some ⟨b, 0, none⟩)] w fun e w' => e = .returned (.tuple #[]) /\ BTo B b V w w' := by
 have u70 := run_underlying Tryz.underlying201;have u262 := run_underlying Tryz.underlying277;obtain ⟨j, U, S⟩ := Option.map_eq_some_iff.1 bc0;rcases h with h | h
 ·have Y := h.cell0
  have N := h.frozen0;have X := h.shape;have Z : ∀ e w', e = Ending.returned (.tuple #[]) /\ w' = w.setCell ⟨b, 0, none⟩ (.pointer (some ⟨b, 0, none⟩)) -> e = Ending.returned (.tuple #[]) /\ BTo B b V w w' := by
   rintro e w' ⟨rfl, rfl⟩;exact ⟨rfl, h.used _, (Below.refl B w).setCell (p := ⟨b, 0, none⟩) h.1 _, (Lib.OthersKept.refl _ _ w).setCell ⟨b, 0, none⟩ rfl _⟩
  refine Calls.mono (R := fun e w' => e = Ending.returned (.tuple #[]) /\ w' = w.setCell ⟨b, 0, none⟩ (.pointer (some ⟨b, 0, none⟩))) ?_ Z;have O : (w.setCell ⟨b, 0, none⟩ (.pointer (some ⟨b, 0, none⟩))).cell? ⟨b, 0, none⟩ = some (.pointer (some ⟨b, 0, none⟩)) := World.cell?_setCell_same' _ _ _ (by rw [Y]; rfl);clear h Z;go_enter Tryz.func176, Tryz.ntmps176;go_wp2;rw [Lib.run_to_unsafe w ⟨b, 0, none⟩ Tryz.underlying201 Tryz.underlying277 U (by rw [S]; decide) X (Nat.zero_lt_succ 1)];simp only [Result.andThen];rw [Oper.upon_value];go_wp2;rw [run_callFunc_extern Tryz.func209 (by kernel_rfl) (by kernel_rfl) (by kernel_rfl) (e := Extern.AbiNoEscape.same) (by kernel_rfl)];rw [Lib.run_noEscape];simp only [Result.andThen];rw [Oper.upon_value];go_wp2;rw [Lib.run_from_unsafe w ⟨b, 0, none⟩ Tryz.underlying277 Tryz.underlying201 U X bls];simp only [Result.andThen];rw [Oper.upon_value];go_wp2;go_end0;exact ⟨rfl, rfl⟩
 ·have Y := h.cell0
  have Q : Hid (BTo B b V w w) := ⟨h, Below.refl B _, Lib.OthersKept.refl _ _ _⟩;clear h;go_enter Tryz.func176, Tryz.ntmps176;go_wp2;rw [Lib.run_neq_ptr_same w _ Tryz.underlying201 U];go_wp2;go_end0;exact ⟨rfl, Q.out⟩
theorem wBa (B b : Nat) (R : List Value) (c : Int) (w : World) (h : Lib.IsBuilderF 203 5 B b R w) (G : R.length + 1 <= 1000000000) (A : B <= w.heap.size) :
 Calls Tryz.prog 138 #[.pointer (some ⟨b, 0, none⟩), .int .u8 c] w fun e w' => e = .returned .nilIface /\ BTo B b (R ++ [.int .u8 c]) w w' := by
 obtain ⟨x, z, K, J, I⟩ := info_parts bio;have u70 := run_underlying Tryz.underlying201;go_enter Tryz.func138, Tryz.ntmps138;go_wp2_with fail;refine (cCa B b R _ h).mono ?_;rintro e Q ⟨rfl, C, V, N⟩;obtain ⟨H, v, S, Y, L⟩ := C;have c0 : Q.cell? ⟨b, 0, none⟩ = some (.pointer (some ⟨b, 0, none⟩)) := by rw [Lib.cell_of_heap S]; rfl
 have c1 : Q.cell? ⟨b, 1, none⟩ = some v := by rw [Lib.cell_of_heap S]; rfl
 go_wp2_with (at_builtin; refine wpList_append_ownF _ rfl _ _ 90 rfl B 5 x (.int .u8 0) 1 1 Tryz.underlying90 z K J I rfl (by decide) _ _ _ rfl (Y.alloc _) ⟨Q.heap.size, 0, none⟩ 1 1 [.int .u8 c] rfl rfl (cell_one_new _ _ _) (by intro u E; simp at E; subst E; rfl) (by unfold maxLen; omega) (by omega) (by have := V.size; simp; omega) ?_);intro t O X Z _;have M : b < Q.heap.size := (Array.getElem?_eq_some_iff.1 S).1;have U : O.heap[b]? = some (.cells #[.pointer (some ⟨b, 0, none⟩), v] 203 (0, 0)) := by
  rw [Z.block b (by simp; omega) (fun e => L e.symm), Lib.alloc_old Q _ b M];exact S
 have s : O.cell? ⟨b, 0, none⟩ = some (.pointer (some ⟨b, 0, none⟩)) := by rw [Lib.cell_of_heap U]; rfl
 have r : O.cell? ⟨b, 1, none⟩ = some v := by rw [Lib.cell_of_heap U]; rfl
 have f1 : O.frozen? ⟨b, 1, none⟩ = false := Lib.frozen_of_heap U 1;obtain ⟨g, cap, rfl⟩ : ∃ g cap, t = .slice (some ⟨g, 0, none⟩) (R.length + 1) cap := by
  rcases X.2 with ⟨_, o⟩ | ⟨g, cap, D, q, y, _⟩
  ·omega
  ·exact ⟨g, cap, y⟩
 go_wp2;go_ret;refine ⟨rfl, ?_, ?_, ((N.alloc _).grown Z (Lib.ownsRowF_kind (Y.alloc _))).setCell ⟨b, 1, none⟩ rfl _⟩
 ·exact Lib.BuilderAtF.put (T := 203) (e := 5) H U (bs' := R ++ [.int .u8 c]) (by simpa using X) bnb
 ·exact ((V.alloc (by have := V.size; omega) _).grown Z (by have := V.size; simp; omega) (fun k hk => (Y.lt k hk).1)).setCell (p := ⟨b, 1, none⟩) H _
theorem wSa (B b : Nat) (R : List Value) (s : ByteArray) (w : World) (h : Lib.IsBuilderF 203 5 B b R w) (D : R.length + s.size <= 1000000000) (y : B <= w.heap.size) :
 Calls Tryz.prog 141 #[.pointer (some ⟨b, 0, none⟩), .string s] w fun e w' => e = .returned (.tuple #[.int .i64 s.size, .nilIface]) /\ BTo B b (R ++ Lib.strCells s) w w' := by
 obtain ⟨t, x, K, J, I⟩ := info_parts bio;have u70 := run_underlying Tryz.underlying201;go_enter Tryz.func141, Tryz.ntmps141;go_wp2_with fail;refine (cCa B b R _ h).mono ?_;rintro e H ⟨rfl, z, S, O⟩;obtain ⟨E, v, U, Y, M⟩ := z;have c0 : H.cell? ⟨b, 0, none⟩ = some (.pointer (some ⟨b, 0, none⟩)) := by rw [Lib.cell_of_heap U]; rfl
 have c1 : H.cell? ⟨b, 1, none⟩ = some v := by rw [Lib.cell_of_heap U]; rfl
 go_wp2_with (at_builtin; refine Lib.wpList_append_own_stringF _ rfl _ _ 90 9 rfl B 5 t Tryz.underlying90 Tryz.underlying9 x K J I _ _ _ rfl Y s rfl (by unfold maxLen; omega) (by omega) (by have := S.size; omega) ?_);intro r Q X Z _;have N : b < H.heap.size := (Array.getElem?_eq_some_iff.1 U).1;have V : Q.heap[b]? = some (.cells #[.pointer (some ⟨b, 0, none⟩), v] 203 (0, 0)) := by
  rw [Z.block b N (fun e => M e.symm)];exact U
 have q : Q.cell? ⟨b, 0, none⟩ = some (.pointer (some ⟨b, 0, none⟩)) := by rw [Lib.cell_of_heap V]; rfl
 have o : Q.cell? ⟨b, 1, none⟩ = some v := by rw [Lib.cell_of_heap V]; rfl
 have f1 : Q.frozen? ⟨b, 1, none⟩ = false := Lib.frozen_of_heap V 1;obtain ⟨G, C, cap, rfl⟩ : ∃ G C cap, r = .slice G C cap := by
  rcases X.2 with ⟨L, _⟩ | ⟨g, cap, A, n, L, _⟩
  ·exact ⟨_, _, _, L⟩
  ·exact ⟨_, _, _, L⟩
 go_wp2;go_ret2;refine ⟨rfl, ?_, ?_, (O.grown Z (Lib.ownsRowF_kind Y)).setCell ⟨b, 1, none⟩ rfl _⟩
 ·exact Lib.BuilderAtF.put (T := 203) (e := 5) E V (bs' := R ++ Lib.strCells s) (by simpa [Lib.strCells_length] using X) bnb
 ·exact (S.grown Z (by have := S.size; omega) (fun k hk => (Y.lt k hk).1)).setCell (p := ⟨b, 1, none⟩) E _
open Go.Lib
def BS (l : List UInt8) : ByteArray := ⟨l.toArray⟩
theorem Blt (l : List UInt8) : (BS l).data.toList = l := by simp [BS]
theorem Bse (l : List UInt8) : (BS l).size = l.length := by simp [BS, ByteArray.size]
structure Good (w : World) : Prop where
 tab : Lib.TabIs Tryz.prog w "internal/strconv.uint64pow10" .u64 Lib.pow10Tab
 maxLen : ∃ m, w.cell? ⟨0, 0, none⟩ = some (.int .i64 m)
theorem gTb : Tryz.prog.globalNamed "internal/strconv.uint64pow10" = some 1 := by kernel_rfl
theorem Good.below {w w' : World} (h : Good w) (V : Below w.heap.size w w') : Good w' := by
 obtain ⟨Z, m, X⟩ := h;have Y : 1 < w.heap.size := by
  unfold Lib.TabIs World.var? at Z;rw [gTb] at Z;simp only [Option.bind_some] at Z;cases hh : w.heap[1]? with
  | none => rw [hh] at Z; simp at Z
  | some o => exact (Array.getElem?_eq_some_iff.1 hh).1
 refine ⟨var?_below V gTb Y Z, m, ?_⟩;rw [V.cell (World.block_lt_of_cell? w _ X)];exact X
theorem Good.alloc {w : World} (h : Good w) (o : Obj) : Good (w.alloc o) := h.below ((Below.refl _ _).alloc (Nat.le_refl _) o)
theorem Good.drewN {w : World} (h : Good w) (n : Nat) : Good (w.drewN n) := h.below (bdN w n)
theorem iay (n : Int) (Z : -9223372036854775808 <= n) (Y : n <= 9223372036854775807) (w : World) (X : Good w) :
 Calls Tryz.prog 91 #[.int .i64 n] w (Ret (fun v _ => v = .string (IS n)) w) := by
 refine (Tryz.strconv_Itoa n Z Y w X.tab).mono ?_;rintro e w' ⟨rfl, k, os, rfl⟩;exact ⟨_, rfl, rfl, Lib.below_grow _ _ (Nat.le_refl _) _ _⟩
theorem aay (n : Int) (Z : (IS n).size <= 18) (w : World) :
 Calls Tryz.prog 135 #[.string (IS n)] w (Ret (fun v _ => v = .tuple #[.int .i64 n, .nilIface]) w) := by
 refine (Tryz.strconv_Atoi (IS n) n Z (by rw [Ilt]; exact aia n) w).mono ?_;rintro e w' ⟨rfl, t, rfl⟩;exact ⟨_, rfl, rfl, Go.Joins.below_bytesWorld _ _ _ _ (Nat.le_refl _)⟩
theorem pUa (l : List UInt8) (Y : ∀ c ∈ l, isDig c) (Z : l ≠ []) (X : l.length <= 9) (w : World) :
 Calls Tryz.prog 136 #[.string (BS l), .int .i64 10, .int .i64 64] w (Ret (fun v _ => v = .tuple #[.int .u64 (dval l), .nilIface]) w) := by
 refine (Tryz.strconv_ParseUint_10_at64_ok (BS l) (by rw [Bse]; omega) (dval l) (by rw [Blt]; exact pUB Y Z X) w).mono ?_;rintro e w' ⟨rfl, rfl | rfl⟩
 ·exact ⟨_, rfl, rfl, Below.refl _ _⟩
 ·exact ⟨_, rfl, rfl, Go.Joins.below_bytesWorld _ _ _ _ (Nat.le_refl _)⟩
theorem fUi (u : Nat) (O : Int) (V : O = (u : Int)) (Z : u < 18446744073709551616) (w : World) (E : Good w) :
 Calls Tryz.prog 178 #[.int .u64 O, .int .i64 10] w (Ret (fun v _ => v = .string (BS (decDigits u))) w) := by
 by_cases hs : u < 100
 ·have H : O < 100 := by omega
  have D : 0 <= O := by omega
  have J := Lib.hid V;clear V;go_enter Tryz.func178, Tryz.ntmps178;go_wp2_with fail;rw [J.out];refine (Tryz.internal_strconv_small u hs _).mono ?_;rintro e w' ⟨rfl, rfl⟩;go_wp2_with fail;go_ret;exact ⟨_, rfl, rfl, Below.refl _ _⟩
 ·subst V
  have Q : 1 <= u := by omega
  have L : Lib.nDigits u <= 20 := by have := Lib.numDigits_eq u Q Z; split at this <;> omega
  have H : ¬ (u : Int) < 100 := by omega
  have S : Tryz.prog.arrayLen 265 = 24 := by simp [Program.arrayLen, Tryz.underlying265]
  have K : ∀ W, (Instr.sliceAt 265 (.pointer (some ⟨w.heap.size, 0, none⟩)) none (some (.int .i64 (Lib.nDigits u : Int))) none).run Tryz.prog W = .ok (.slice (some ⟨w.heap.size, 0, none⟩) (Lib.nDigits u) 24) W := fun W => by
   rw [run_sliceAt_array_h W 265 ⟨w.heap.size, 0, none⟩ (by simp [Program.arrayLen, Program.elem, Tryz.underlying265]) .i64 (Lib.nDigits u : Int) (by omega) (by rw [S]; omega)];go_simp
  have X := Lib.holds_zero0 w 265 (Lib.nDigits u) (by omega);have Y := Tryz.internal_strconv_formatBase10 w.heap.size 0 24 u (Array.replicate (Lib.nDigits u) 0) (w.alloc (.cells Lib.zeros24 265)) X (by rw [Array.size_replicate]; exact Lib.lt_pow_nDigits u) Z (by rw [Array.size_replicate]; omega);rw [Array.size_replicate] at Y;have N := Lib.hid X;have R := E.tab;clear X S;go_enter Tryz.func178, Tryz.ntmps178;go_wp2_with fail;refine (Tryz.internal_strconv_numDigits u Q Z _ (Lib.tabIs_alloc R _)).mono ?_;rintro e w' ⟨rfl, rfl⟩;go_wp2_with fail;refine Y.mono ?_;rintro e w' ⟨rfl, k, C, U, rfl, M⟩;have G : (convert 90 9 (.slice (some ⟨w.heap.size, 0, none⟩) (Lib.nDigits u) 24)).run Tryz.prog ((Sort.putRow (fun (b : UInt8) => Value.int .u8 (b.toNat : Int)) (w.alloc (.cells Lib.zeros24 265)) w.heap.size 0 U).drewN k) = .ok (.string ⟨(Lib.decDigits u).toArray⟩) ((Sort.putRow (fun (b : UInt8) => Value.int .u8 (b.toNat : Int)) (w.alloc (.cells Lib.zeros24 265)) w.heap.size 0 U).drewN k) := by
   have h := run_convert_bytes_back (P := Tryz.prog) ((Sort.putRow (fun (b : UInt8) => Value.int .u8 (b.toNat : Int)) (w.alloc (.cells Lib.zeros24 265)) w.heap.size 0 U).drewN k) 90 9 5 ⟨w.heap.size, 0, none⟩ 24 (Lib.decDigits u) Tryz.underlying90 Tryz.underlying5 Tryz.underlying9 (fun j hj => by
    rw [Lib.row_is_numeral M j hj, Lib.add_plain, World.cell?_drewN];exact Sort.cell?_putRow (fun (b : UInt8) => Value.int .u8 (b.toNat : Int)) _ w.heap.size 0 _ U N.out (by rw [M.size, Array.size_replicate]) j (by rw [M.size]; rw [Lib.decDigits_length] at hj; exact hj))
   rw [Lib.decDigits_length] at h;exact h
  go_wp2_with fail;go_ret;obtain ⟨os, I⟩ := Lib.fin_at w (.cells Lib.zeros24 265) U k 0;exact ⟨_, rfl, rfl, by rw [I]; exact Lib.below_grow _ _ (Nat.le_refl _) _ _⟩
theorem fUa (u : Nat) (X : Int) (Y : X = (u : Int)) (Z : u < 18446744073709551616) (w : World) (U : Good w) :
 Calls Tryz.prog 140 #[.int .u64 X, .int .i64 10] w (Ret (fun v _ => v = .string (BS (decDigits u))) w) := by
 have V := Lib.hid Y;clear Y;go_enter Tryz.func140, Tryz.ntmps140;go_wp2_with fail;refine zR (fUi u X V.out Z w U) fun w' hb => ?_;go_wp2_with fail;go_ret;exact ⟨_, rfl, rfl, hb⟩
theorem ck0 (s : ByteArray) (X : s.size < 1000000000) (w : World) (Z : Good w) :
 Calls Tryz.prog 87 #[.string s, .string ⟨#[47]⟩] w (Drawn (fun v => v = .tuple #[.string (BS (cut s.data.toList [47]).1), .string (BS (cut s.data.toList [47]).2.1), .bool (cut s.data.toList [47]).2.2]) w) := by
 obtain ⟨m, Y⟩ := Z.maxLen;refine (Tryz.strings_Cut s ⟨#[47]⟩ m w (by omega) Y).mono ?_;rintro e w' ⟨rfl, n, rfl⟩;exact ⟨_, rfl, rfl, n, rfl⟩
theorem cMa (s : ByteArray) (w : World) :
 Calls Tryz.prog 129 #[.string s, .string ⟨#[45]⟩] w (Same (fun v => v = .tuple #[.string (BS (trimPrefix s.data.toList [45])), .bool (hasPrefix s.data.toList [45])]) w) := by
 refine (Tryz.strings_CutPrefix s ⟨#[45]⟩ w).mono ?_;rintro e w' ⟨rfl, rfl⟩;exact ⟨_, rfl, rfl, rfl⟩
theorem tMa (s : ByteArray) (w : World) :
 Calls Tryz.prog 130 #[.string s, .string ⟨#[45]⟩] w (Same (fun v => v = .string (BS (trimPrefix s.data.toList [45]))) w) := by
 refine (Tryz.strings_TrimPrefix s ⟨#[45]⟩ w).mono ?_;rintro e w' ⟨rfl, rfl⟩;exact ⟨_, rfl, rfl, rfl⟩
theorem hMa (s : ByteArray) (w : World) :
 Calls Tryz.prog 134 #[.string s, .string ⟨#[45]⟩] w (Same (fun v => v = .bool (hasPrefix s.data.toList [45])) w) := by
 refine (Tryz.strings_HasPrefix s ⟨#[45]⟩ w).mono ?_;rintro e w' ⟨rfl, rfl⟩;exact ⟨_, rfl, rfl, rfl⟩
theorem sm0 (s t : ByteArray) (w : World) :
 Calls Tryz.prog 131 #[.string s, .string t] w (Same (fun v => v = .int .i64 (compareBytes s.data.toList t.data.toList)) w) := by
 refine (Tryz.strings_Compare s t w).mono ?_;rintro e w' ⟨rfl, rfl⟩;exact ⟨_, rfl, rfl, rfl⟩
end Go.Proofs.YtmcbeajdloaliaaGreatDoor
namespace Go.Proofs.YtmcbeajdloaliaaGreatDoor
open Go.RowKit Go.Shelf
attribute [local go_sem] Oper.semAt_some
def bwd (N k : Nat) : List Nat := (List.range k).map fun j => N - 1 - j
theorem bsc (N k : Nat) : bwd N (k + 1) = bwd N k ++ [N - 1 - k] := by simp [bwd, List.range_succ]
theorem blh (N k : Nat) : (bwd N k).length = k := by simp [bwd]
def eBd (xs : List Nat) (i : Nat) : Array Value := #[.int .i64 (i : Int), .int .u64 (((xs[i]?).getD 0 : Nat) : Int)]
abbrev Ix (xs : List Nat) := { i : Nat // i < xs.length }
def KeepAt (n₀ Bs : Nat) (A B : World) : Prop := Below n₀ A B /\ B.heap[Bs]? = A.heap[Bs]?
theorem KeepAt.refl (n₀ Z : Nat) (A : World) : KeepAt n₀ Z A A := ⟨Below.refl _ _, rfl⟩
theorem KeepAt.trans {n₀ Bs : Nat} {A B C : World} (h : KeepAt n₀ Bs A B) (k : KeepAt n₀ Bs B C) : KeepAt n₀ Bs A C := ⟨h.1.trans k.1, k.2.trans h.2⟩
theorem KeepAt.cell {n₀ Bs : Nat} {A B : World} (h : KeepAt n₀ Bs A B) : B.cell? ⟨Bs, 0, none⟩ = A.cell? ⟨Bs, 0, none⟩ := World.cell?_of_block h.2
theorem kAb {n₀ Bs : Nat} {w : World} (U : n₀ <= w.heap.size) (S : Bs < w.heap.size) (W : World) (l : Nat) (o Z : Obj) (V : w.heap.size <= l) (h : W.heap[l]? = some o) (Y : o.isCells = false) (X : o.isWalk = false) : KeepAt n₀ Bs W (W.putObj l Z) :=
 ⟨belowK_b U W l o Z V h Y X, World.putObj_heap_other (by omega)⟩
theorem bin (F : Fence) (n : Nat) (q : F.fn 177) (D : F.round = none) (hn : 1 <= n) (l O n₀ : Nat) (p : Option Addr) (c : Nat) (xs : List Nat)
 (y : xs.length <= 1000000) (J B : List (Ix xs) -> World -> Prop)
 (j : ∀ pre x W, J pre W -> pre.length < xs.length -> YieldAt F (n - 1) Tryz.prog l (eBd xs x.1) W fun e W' =>
   (e = .returned (.bool true) /\ J (pre ++ [x]) W' /\ KeepAt n₀ O W W') \/ (e = .returned (.bool false) /\ B (pre ++ [x]) W'))
 (W : World) (S : W.cell? ⟨O, 0, none⟩ = some (.slice p xs.length c))
 (z : xs ≠ [] -> ∃ b off, p = some ⟨b, off, none⟩ /\ b < n₀ /\ ∀ (i : Nat) (N : i < xs.length), W.cell? ⟨b, off + i, none⟩ = some (.int .u64 ((xs[i] : Nat) : Int))) (r : J [] W) :
 CallsIn F n Tryz.prog 177 #[.func (.yield l) #[] #[], .pointer (some ⟨O, 0, none⟩)] W fun e W' => (∃ v, e = .returned v) /\
  ((∃ ys : List (Ix xs), ys.map Subtype.val = bwd xs.length xs.length /\ J ys W') \/ (∃ pre, True /\ B pre W')) := by
 refine callsIn_of_wp Tryz.func177 rfl q ?_ D;simp only [Tryz.ntmps177, List.size_toArray, List.length_cons, List.length_nil, Nat.reduceAdd, Nat.reduceSub, Array.replicate_succ, Array.replicate_zero, List.push_toArray, List.append_toArray, List.nil_append, List.cons_append];obtain ⟨m, G⟩ : ∃ m, xs.length = m := ⟨_, rfl⟩;have t := Lib.hid G;have g : xs.length <= m := by omega
 have f : m <= xs.length := by omega
 rw [G] at S;clear G
 gi_wp2
 gi_loopw [3] (fun i wr => ∃ k : Nat, k <= m /\ i = .int .i64 ((m : Int) - 1 - (k : Int)) /\ (∃ pre : List (Ix xs), pre.map Subtype.val = bwd m k /\ J pre wr) /\ KeepAt n₀ O W wr)
  (fun i _ => (intOf i + 1).toNat)
 case atStart => exact ⟨0, Nat.zero_le _, by simp, ⟨[], rfl, r⟩, KeepAt.refl _ _ _⟩
 case round =>
  obtain ⟨k, a, rfl, ⟨pre, Z, V⟩, U⟩ := hrel;by_cases hlt : k < m
  ·have E : xs ≠ [] := List.ne_nil_of_length_pos (by omega)
   obtain ⟨b, off, rfl, K, Y⟩ := z E;obtain ⟨i, N⟩ := zex (m - 1 - k);have C := Lib.hid N;have M : i < xs.length := by omega
   have I := zcq U.1 K (Y i M);have h := U.cell.trans S;obtain ⟨x, hx⟩ := zex (xs[i]);rw [<- hx] at I;have Q : (xs[i]?).getD 0 = x := by rw [hx]; simp [M]
   obtain ⟨fn, tmps, assign, body, hy, o⟩ := j pre ⟨i, M⟩ wr V (by have := congrArg List.length Z; rw [List.length_map, blh] at this; omega);dsimp only [eBd] at hy;rw [Q] at hy;have A : (m : Int) - 1 - (k : Int) = (i : Int) := by omega
   rw [A];have X : (pre ++ [(⟨i, M⟩ : Ix xs)]).map Subtype.val = bwd m (k + 1) := by rw [bsc, <- N, List.map_append, Z]; rfl
   have s := Lib.hid X;clear Y z A N V hx X Q Z;have f1 : (0 : Int) <= (i : Int) := by omega
   have f2 : (i : Int) < (m : Int) := by have := C.out; omega
   gi_wp2
   refine o.mono ?_;rintro e d (⟨rfl, L, H⟩ | ⟨rfl, R⟩)
   ·gi_wp2
    go_roundw
    case rel => exact ⟨k + 1, by omega, congrArg (Value.int .i64) (by have := C.out; omega), ⟨_, s.out, L⟩, U.trans H⟩
    case measure => simp [intOf]
   ·gi_wp2
    refine bodyPost_ret (results_none rfl _ _ _) rfl ?_;exact ⟨⟨_, rfl⟩, .inr ⟨_, trivial, R⟩⟩
  ·obtain rfl : k = m := by omega
   gi_wp2
   go_end0;exact ⟨⟨_, rfl⟩, .inl ⟨_, by rw [Z, t.out], V⟩⟩
theorem bss (F : Fence) (n : Nat) (O : F.fn 177) (R : F.round = none) (M : 1 <= n) (Y n₀ : Nat) (p : Option Addr) (c : Nat) (xs : List Nat) (X : xs.length <= 1000000) (w : World)
 (V : Y < w.heap.size) (hn₀ : n₀ <= w.heap.size) (N : w.cell? ⟨Y, 0, none⟩ = some (.slice p xs.length c))
 (K : xs ≠ [] -> ∃ b off, p = some ⟨b, off, none⟩ /\ b < n₀ /\ ∀ (i : Nat) (Q : i < xs.length), w.cell? ⟨b, off + i, none⟩ = some (.int .u64 ((xs[i] : Nat) : Int))) :
 SeqStopsK F n Tryz.prog 177 #[.pointer (some ⟨Y, 0, none⟩)] (fun x : Ix xs => eBd xs x.1) (KeepAt n₀ Y) (fun ys => ys.map Subtype.val = bwd xs.length xs.length) (fun _ => True) xs.length w := fun l J Jx W hW _ _ hY h0' => by
 have S := zcq hW V N;refine bin F n O R M l Y n₀ p c xs X J Jx hY W S (fun hne => ?_) h0';obtain ⟨b, off, L, U, Z⟩ := K hne;refine ⟨b, off, L, U, fun i Q => ?_⟩;rw [hW.cell (p := ⟨b, off + i, none⟩) (by show b < w.heap.size; omega)];exact Z i Q
theorem bay (a : Option Addr) (len cap : Nat) (w : World) :
 Calls Tryz.prog 139 #[.slice a len cap] w fun e w' => e = .returned (.func (.func 177) #[] #[.pointer (some ⟨w.heap.size, 0, none⟩)]) /\ w.alloc (.cells #[.slice a len cap] 162) = w' := by
 go_enter Tryz.func139, Tryz.ntmps139;go_wp2;go_ret;exact ⟨rfl, rfl⟩
end Go.Proofs.YtmcbeajdloaliaaGreatDoor
namespace Go.Proofs.YtmcbeajdloaliaaGreatDoor
open Go.RowKit Go.Shelf Go.Lib
theorem cPd (p q : Nat -> Bool) (h : ∀ x, q x = true -> p x = true) (i : Nat) (X : p i = true) (hq : q i = false) (l : List Nat) (Z : i ∈ l) : l.countP q < l.countP p := by
 induction l with
 | nil => cases Z
 | cons x l ih =>
   have Y : l.countP q <= l.countP p := List.countP_mono_left fun x _ => h x;simp only [List.countP_cons];rcases List.mem_cons.1 Z with rfl | Z
   ·rw [X, hq]; simp; omega
   ·have := ih Z
    have V : (if q x = true then 1 else 0) <= (if p x = true then 1 else 0) := by
     split
     ·rename_i hx; rw [if_pos (h x hx)]; exact Nat.le_refl _
     ·exact Nat.zero_le _
    omega
section
variable {F : Fence} {n : Nat} {P : Program} {ops : Array Oper} {Q : Exit -> Act -> World -> Prop} {md : Region.Mode}
structure DrawnAt (md : Region.Mode) (ops : Array Oper) (vals : Nat -> Value -> Prop) (a0 : Act) (listed : Array Bool) (a : Act) : Prop where
 size : listed.size = ops.size
 closed : ∀ j oj, ops[j]? = some oj -> listed.getD j false = true -> ∀ e ∈ oj.after, Region.binds md e = true -> listed.getD e.on false = true
 has : ∀ j oj d, ops[j]? = some oj -> oj.dst = some d -> listed.getD j false = true -> vals j (a.eval (.tmp d))
 old : ∀ s, (∀ (j : Nat) (oj : Oper), ops[j]? = some oj -> oj.dst ≠ some s) -> a.eval (.tmp s) = a0.eval (.tmp s)
 tsize : a.tmps.size = a0.tmps.size
 defers : a.defers = a0.defers
theorem gb0 {listed : Array Bool} {i j : Nat} (h : (listed.setIfInBounds i true).getD j false = true) : j = i \/ listed.getD j false = true := by
 by_cases hij : j = i
 ·exact .inl hij
 ·refine .inr ?_
  rw [Array.getD_eq_getD_getElem?, Array.getElem?_setIfInBounds_ne (by omega)] at h;rw [Array.getD_eq_getD_getElem?]; exact h
theorem gDs {listed : Array Bool} {i j : Nat} (h : listed.getD j false = true) : (listed.setIfInBounds i true).getD j false = true := by
 rw [Array.getD_eq_getD_getElem?] at *;by_cases hij : i = j
 ·subst hij
  rw [Array.getElem?_setIfInBounds_self];split
  ·rfl
  ·rename_i hh; rw [Array.getElem?_eq_none (by omega)] at h; simp at h
 ·rw [Array.getElem?_setIfInBounds_ne hij]; exact h
theorem eps {a : Act} {d : Tmp} {v : Value} (h : d < a.tmps.size) : (a.put (some d) v).eval (.tmp d) = v := by
 simp [Act.put, Act.eval, Array.getD_eq_getD_getElem?, h]
theorem epo {a : Act} {d s : Tmp} {v : Value} (h : d ≠ s) : (a.put (some d) v).eval (.tmp s) = a.eval (.tmp s) := by
 simp [Act.put, Act.eval, Array.getD_eq_getD_getElem?, Array.getElem?_setIfInBounds_ne h]
theorem pte {a : Act} {d : Option Tmp} {v : Value} : (a.put d v).tmps.size = a.tmps.size := by cases d <;> simp [Act.put]
theorem pds {a : Act} {d : Option Tmp} {v : Value} : (a.put d v).defers = a.defers := by cases d <;> simp [Act.put]
def tidyB (ops : Array Oper) (m : Nat) : Bool :=
 ((List.range ops.size).all fun i => (match ops[i]? with | some o => o.after.all (fun e => decide (e.on < i)) && (match o.dst with | some d => decide (d < m) | none => true) | none => true)) &&
 ((List.range ops.size).all fun i => (List.range ops.size).all fun j => decide (i = j) || (match (ops[i]?).bind (·.dst), (ops[j]?).bind (·.dst) with | some d, some d' => decide (d ≠ d') | _, _ => true))
theorem tee {m : Nat} (h : tidyB ops m = true) {i : Nat} {o : Oper} (Y : ops[i]? = some o) : ∀ e ∈ o.after, e.on < i := by
 simp only [tidyB, Bool.and_eq_true, List.all_eq_true, List.mem_range] at h;have Z := h.1 i (Array.getElem?_eq_some_iff.1 Y).1;rw [Y] at Z;simp only [Bool.and_eq_true, Array.all_eq_true_iff_forall_mem, decide_eq_true_eq] at Z;exact Z.1
theorem tdt {m : Nat} (h : tidyB ops m = true) {i : Nat} {o : Oper} {d : Tmp} (Y : ops[i]? = some o) (X : o.dst = some d) : d < m := by
 simp only [tidyB, Bool.and_eq_true, List.all_eq_true, List.mem_range] at h;have Z := h.1 i (Array.getElem?_eq_some_iff.1 Y).1;rw [Y] at Z;simp only [Bool.and_eq_true, X, decide_eq_true_eq] at Z;exact Z.2
theorem tat {m : Nat} (h : tidyB ops m = true) {i j : Nat} {o o' : Oper} {d d' : Tmp} (U : ops[i]? = some o) (Z : ops[j]? = some o') (S : o.dst = some d) (X : o'.dst = some d') (V : i ≠ j) : d ≠ d' := by
 simp only [tidyB, Bool.and_eq_true, List.all_eq_true, List.mem_range] at h;have Y := h.2 i (Array.getElem?_eq_some_iff.1 U).1 j (Array.getElem?_eq_some_iff.1 Z).1;rw [U, Z] at Y;simp only [Option.bind_some, S, X, Bool.or_eq_true, decide_eq_true_eq] at Y;exact Y.resolve_left V
theorem DrawnAt.step {vals : Nat -> Value -> Prop} {a0 : Act} {listed : Array Bool} {a : Act} (O : tidyB ops a0.tmps.size = true) (h : DrawnAt md ops vals a0 listed a) {i : Nat} {o : Oper} (V : ops[i]? = some o)
 (N : ∀ e ∈ o.after, Region.binds md e = true -> listed.getD e.on false = true) {v : Value} (M : vals i v) : DrawnAt md ops vals a0 (listed.setIfInBounds i true) (a.put o.dst v) := by
 refine ⟨by simp [h.size], ?_, ?_, ?_, by rw [pte, h.tsize], by rw [pds, h.defers]⟩
 ·intro j U Z Y e Q R
  rcases gb0 Y with rfl | Y
  ·rw [V] at Z; cases Z; exact gDs (N e Q R)
  ·exact gDs (h.closed j U Z Y e Q R)
 ·intro j U d Z X Y
  by_cases hij : i = j
  ·subst hij
   rw [V] at Z; cases Z;rw [X];rw [eps (by rw [h.tsize]; exact tdt O V X)]; exact M
  ·rcases gb0 Y with rfl | Y
   ·exact absurd rfl hij
   ·cases hdo : o.dst with
    | none => exact h.has j U d Z X Y
    | some d' => rw [epo (tat O V Z hdo X hij)]; exact h.has j U d Z X Y
 ·intro s S
  cases hdo : o.dst with
  | none => exact h.old s S
  | some d' => rw [epo (fun e => S i o V (by rw [hdo, e]))]; exact h.old s S
theorem wb0 {vals : Nat -> Value -> Prop} {a0 : Act} (C : Array Bool -> World -> Prop) (z : tidyB ops a0.tmps.size = true)
 (N : ∀ Z a w i o, ops[i]? = some o -> Z.getD i true = false -> (∀ e ∈ o.after, Region.binds md e = true -> Z.getD e.on false = true) -> DrawnAt md ops vals a0 Z a -> C Z w ->
   Region.wanted o (yielded ops a.tmps) = true /\ o.wpIn F n P a w (fun A w' => ∃ v, vals i v /\ A = a.put o.dst v /\ C (Z.setIfInBounds i true) w') Q)
 (S : ∀ Z a w, (∀ i, i < ops.size -> Z.getD i false = true) -> DrawnAt md ops vals a0 Z a -> C Z w -> Q .normal a w) :
 ∀ fuel Z a w, (List.range ops.size).countP (fun i => !(Z.getD i false)) <= fuel -> DrawnAt md ops vals a0 Z a -> C Z w -> wpAnyIn F n P md ops Q fuel Z a w := by
 have L : ∀ Z a, DrawnAt md ops vals a0 Z a -> Region.ready md ops Z = [] -> ∀ i, i < ops.size -> Z.getD i false = true := by
  intro Z a Y D i X
  induction i using Nat.strongRecOn with
  | _ i ih =>
    cases E : Z.getD i false with
    | true => rfl
    | false =>
      have R : i ∈ Region.ready md ops Z := by
       refine mem_ready.2 ⟨?_, ops[i], by simp [X], ?_⟩
       ·rw [Array.getD_eq_getD_getElem?] at *
        have : i < Z.size := by rw [Y.size]; exact X
        rw [Array.getElem?_eq_getElem this] at *;exact E
       ·intro e t _
        have V := tee z (i := i) (o := ops[i]) (by simp [X]) e t;exact ih e.on V (by omega)
      rw [D] at R;cases R
 intro fuel
 induction fuel with
 | zero =>
   intro Z a w E Y H;have K : ∀ i, i < ops.size -> Z.getD i false = true := by
    intro i X;have y : (List.range ops.size).countP (fun i => !(Z.getD i false)) = 0 := by omega
    have := List.countP_eq_zero.1 y i (List.mem_range.2 X);simpa using this
   refine ⟨?_, S _ _ _ K Y H⟩;apply List.eq_nil_iff_forall_not_mem.2;intro i X;obtain ⟨M, o, O, _⟩ := mem_ready.1 X;have I := K i (Array.getElem?_eq_some_iff.1 O).1;have B : i < Z.size := by rw [Y.size]; exact (Array.getElem?_eq_some_iff.1 O).1
   rw [Array.getD_eq_getD_getElem?, Array.getElem?_eq_getElem B] at M I;simp only [Option.getD_some] at M I;rw [M] at I; cases I
 | succ fuel ih =>
   intro Z a w E Y H;refine ⟨fun D => S _ _ _ (L _ _ Y D) Y H, fun i X => ?_⟩;obtain ⟨M, o, O, U⟩ := mem_ready.1 X;obtain ⟨hw, B⟩ := N Z a w i o O M U Y H;unfold wpOpIn;simp only [O, hw, if_true];refine Oper.wpIn_mono ?_ B;rintro A w' ⟨v, s, rfl, G⟩;refine ih _ _ _ ?_ (Y.step z O U s) G;have V : i < ops.size := (Array.getElem?_eq_some_iff.1 O).1;have J : i < Z.size := by rw [Y.size]; exact V
   have := cPd (fun j => !(Z.getD j false)) (fun j => !((Z.setIfInBounds i true).getD j false)) (fun x hx => by
    simp only [Bool.not_eq_true'] at *;cases hb : Z.getD x false with
    | false => rfl
    | true => rw [gDs hb] at hx; cases hx) i (by
      rw [Array.getD_eq_getD_getElem?, Array.getElem?_eq_getElem J] at *;simp only [Option.getD_some] at *;simp [M]) (by simp [Array.getD_eq_getD_getElem?, J]) (List.range ops.size) (List.mem_range.2 V)
   omega
theorem ga0 (Z : Array Bool) (i j : Nat) (h : i ≠ j) : (Z.setIfInBounds i true).getD j false = Z.getD j false := by
 rw [Array.getD_eq_getD_getElem?, Array.getD_eq_getD_getElem?, Array.getElem?_setIfInBounds_ne h]
theorem gDf {listed : Array Bool} {i : Nat} (h : listed.getD i true = false) : listed.getD i false = false := by
 rw [Array.getD_eq_getD_getElem?] at *;cases hc : listed[i]? with
 | none => rfl
 | some b => rw [hc] at h; exact h
theorem gDn {listed : Array Bool} {i : Nat} (h : listed.getD i true = false) : (listed.setIfInBounds i true).getD i false = true := by
 rw [Array.getD_eq_getD_getElem?] at *;rw [Array.getElem?_setIfInBounds_self];by_cases hl : i < listed.size
 ·simp [hl]
 ·rw [Array.getElem?_eq_none (by omega)] at h; simp at h
theorem wa0 {id : Nat} {l : List Oper} {a : Act} {w : World} (vals : Nat -> Value -> Prop) (C : Array Bool -> World -> Prop) (U : P.follows .mixedOrders = true) (S : tidyB l.toArray a.tmps.size = true)
 (V : C (Array.replicate l.toArray.size false) w.drew)
 (Z : ∀ listed a' w' i o, l.toArray[i]? = some o -> listed.getD i true = false -> (∀ e ∈ o.after, Region.binds .any e = true -> listed.getD e.on false = true) -> DrawnAt .any l.toArray vals a listed a' -> C listed w' ->
   Region.wanted o (yielded l.toArray a'.tmps) = true /\ o.wpIn F n P a' w' (fun a'' w'' => ∃ v, vals i v /\ a'' = a'.put o.dst v /\ C (listed.setIfInBounds i true) w'') Q)
 (Y : ∀ listed a' w', (∀ i, i < l.toArray.size -> listed.getD i false = true) -> DrawnAt .any l.toArray vals a listed a' -> C listed w' -> Q .normal a' w') :
 (Code.region id l.toArray true).wpIn F n P Q a w := by
 refine wpIn_region_any U (wb0 (vals := vals) (a0 := a) C S Z Y _ _ _ _ ?_ ⟨by simp, ?_, ?_, fun _ _ => rfl, rfl, rfl⟩ V)
 ·exact Nat.le_trans (List.countP_le_length) (by simp)
 ·intro j R _ X; simp [Array.getD_eq_getD_getElem?] at X
  rcases Nat.lt_or_ge j l.length with h | h <;> simp_all
 ·intro j R d _ _ X; simp [Array.getD_eq_getD_getElem?] at X
  rcases Nat.lt_or_ge j l.length with h | h <;> simp_all
theorem wIv {o : Oper} {a : Act} {w w' : World} {K : Act -> World -> Prop} {v : Value} (Y : ∀ c, o.op ≠ .call c) (X : ∀ c, o.op ≠ .defer c) (V : (execOp a.eval o).run P w = .ok (.value v) w') (Z : K (a.put o.dst v) w') : o.wpIn F n P a w K Q := by
 refine ⟨fun f hf => ?_, ?_⟩
 ·unfold Oper.about at hf
  split at hf
  ·rename_i c h; exact absurd h (Y c)
  ·cases hf
 ·rw [Oper.semAt_eq _ _ _ X, V]; exact Z
theorem wIs {o : Oper} {a : Act} {w w' : World} {K : Act -> World -> Prop} (Y : ∀ c, o.op ≠ .call c) (X : ∀ c, o.op ≠ .defer c) (V : (execOp a.eval o).run P w = .ok .skip w') (Z : K (a.put o.dst undef) w') : o.wpIn F n P a w K Q := by
 refine ⟨fun f hf => ?_, ?_⟩
 ·unfold Oper.about at hf
  split at hf
  ·rename_i c h; exact absurd h (Y c)
  ·cases hf
 ·rw [Oper.semAt_eq _ _ _ X, V]; exact Z
theorem wIe {o : Oper} {a : Act} {w : World} {K : Act -> World -> Prop} {f : FuncId} {args : Array Value} (Y : ∀ c, o.op ≠ .defer c) (X : (execOp a.eval o).run P w = .ok (.enter f args) w)
 (Z : Calls P f args w fun e w' => ∃ v, e = .returned v /\ K (a.put o.dst v) w') : o.wpIn Fence.wide n P a w K Q := by
 refine ⟨fun f hf => trivial, ?_⟩;rw [Oper.semAt_eq _ _ _ Y, X];refine ⟨(by intro h; cases h), ?_⟩;refine CallsIn.mono (callsIn_wide.2 Z) ?_;rintro e w' ⟨v, rfl, h⟩;exact h
end
end Go.Proofs.YtmcbeajdloaliaaGreatDoor
namespace Go.Proofs.YtmcbeajdloaliaaGreatDoor
open Go.RowKit Go.Shelf Go.Lib
attribute [local go_sem] Oper.semAt_some
def piece (xs : List Nat) (i : Nat) : List UInt8 := if i < xs.length - 1 then pad 9 ((xs[i]?.getD 0)) else decDigits ((xs[i]?.getD 0))
def ppi (xs : List Nat) (pre : List Nat) : List UInt8 := (pre.map (piece xs)).flatten
theorem psc (xs pre : List Nat) (i : Nat) : ppi xs (pre ++ [i]) = ppi xs pre ++ piece xs i := by simp [ppi]
theorem pnl (xs : List Nat) : ppi xs [] = [] := rfl
theorem gDl {xs : List Nat} (h : ∀ x ∈ xs, x < B9) (i : Nat) : (xs[i]?.getD 0) < B9 := by
 rcases Nat.lt_or_ge i xs.length with Z | Z
 ·simp [Z]; exact h _ (List.getElem_mem Z)
 ·simp [Z]; decide
theorem dh0 {x : Nat} (h : x < B9) : (decDigits x).length <= 9 := (ldD x 9 (by decide)).2 h
theorem pg0 {xs : List Nat} (h : ∀ x ∈ xs, x < B9) (i : Nat) : (piece xs i).length <= 9 := by
 unfold piece;split
 ·rw [plh 9 _ (by decide) (gDl h i)]; exact Nat.le_refl _
 ·exact dh0 (gDl h i)
theorem pln {xs : List Nat} (h : ∀ x ∈ xs, x < B9) (pre : List Nat) : (ppi xs pre).length <= 9 * pre.length := by
 induction pre with
 | nil => simp [ppi]
 | cons i pre ih =>
   have := pg0 h i;simp only [ppi, List.map_cons, List.flatten_cons, List.length_append, List.length_cons] at *;omega
theorem pd0 {n k : Nat} (_hn : 0 < n) (M : 1 <= k) (O : k <= (lm B9 n).length) :
 ppi (lm B9 n) (bwd (lm B9 n).length k) = decDigits (lval B9 ((lm B9 n).drop ((lm B9 n).length - k))) /\ 0 < lval B9 ((lm B9 n).drop ((lm B9 n).length - k)) := by
 have X := lm_lt B9 n tlB;have Z := lc0 B9 n tlB;generalize lm B9 n = l at *
 induction k with
 | zero => omega
 | succ k ih =>
   rw [bsc, psc];have Y : l.length - 1 - k < l.length := by omega
   have R : l.drop (l.length - (k + 1)) = l[l.length - 1 - k] :: l.drop (l.length - k) := by
    rw [show l.length - (k + 1) = l.length - 1 - k by omega, List.drop_eq_getElem_cons Y];congr 2;omega
   have V : (l[l.length - 1 - k]?.getD 0) = l[l.length - 1 - k] := by simp [Y]
   rw [R];simp only [lval];rcases Nat.eq_zero_or_pos k with rfl | Q
   ·have S : l.drop (l.length - 0) = [] := by simp
    have N : l[l.length - 1 - 0] ≠ 0 := by
     intro e;apply Z (l.take (l.length - 1));have := List.take_succ_eq_append_getElem (l := l) (i := l.length - 1) (by omega);rw [show l.length - 1 + 1 = l.length by omega, List.take_length] at this;rw [this];congr 2
     ·simp; omega
    rw [S];simp only [lval, Nat.mul_zero, Nat.add_zero];refine ⟨?_, by omega⟩;unfold piece;rw [if_neg (by omega), V];simp [bwd, ppi]
   ·obtain ⟨e, U⟩ := ih (by omega) (by omega)
    refine ⟨?_, by have : 0 < B9 * lval B9 (l.drop (l.length - k)) := Nat.mul_pos (by decide) U; omega⟩;rw [e];unfold piece;rw [if_pos (by omega), V, Nat.add_comm (l[l.length - 1 - k]), Nat.mul_comm B9];exact (dc0 _ 9 _ U (by decide) (X _ (List.getElem_mem Y))).symm
theorem plt {xs : List Nat} {i : Nat} (h : i < xs.length - 1) : piece xs i = List.replicate (9 - (decDigits (xs[i]?.getD 0)).length) 48 ++ decDigits (xs[i]?.getD 0) := by
 unfold piece; rw [if_pos h]; rfl
theorem pge {xs : List Nat} {i : Nat} (h : ¬ i < xs.length - 1) : piece xs i = decDigits (xs[i]?.getD 0) := by
 unfold piece; rw [if_neg h]
theorem zet {l : List UInt8} (h : l.length <= 9) : ({ data := #[48, 48, 48, 48, 48, 48, 48, 48, 48] } : ByteArray).extract (BS l).size 9 = BS (List.replicate (9 - l.length) 48) := by
 apply bet;rw [Lib.extract_data, Blt, Bse];generalize l.length = k at *
 match k, h with
 | 0, _ | 1, _ | 2, _ | 3, _ | 4, _ | 5, _ | 6, _ | 7, _ | 8, _ | 9, _ => rfl
theorem sCB (l : List UInt8) : Lib.strCells (BS l) = Lib.byteCells l := by
 simp [Lib.strCells, Lib.byteCells, BS]
theorem bCl (l : List UInt8) : (Lib.byteCells l).length = l.length := by simp [Lib.byteCells]
theorem bon {T e B b : Nat} {bs : List Value} {W W' : World} {row : Option Nat} (h : Lib.IsBuilderF T e B b bs W) (Y : W.grownBy W' row)
 (V : ∀ r, row = some r -> ∃ o : Obj, W.heap[r]? = some o /\ o.isCells = false) : Lib.IsBuilderF T e B b bs W' := by
 have key : ∀ p, Lib.BuilderAtF T e B b p bs W -> Lib.BuilderAtF T e B b p bs W' := by
  intro p ⟨hB, v, hb, hown, hne⟩;refine ⟨hB, v, (grownBy_keeps_cells Y V hb rfl).trans hb, hown.kept Y ?_, hne⟩;cases hv : v.ownBlock with
  | none => exact .inl rfl
  | some g =>
    refine .inr ?_;intro S;obtain ⟨o, X, R⟩ := V g S.symm;rcases hown.2 with ⟨rfl, _⟩ | ⟨O, cap, U, Q, rfl, _, Z, _⟩
    ·simp [Value.ownBlock] at hv
    ·simp [Value.ownBlock] at hv
     subst hv;rw [Z] at X;cases X;cases R
 exact h.imp (key _) (key _)
theorem czo (w : World) (v : Value) (m : Bool) (Z : Rd .u64 w v []) :
 Calls Tryz.prog 100 #[.agg #[.bool m, v]] w (Ret (fun r _ => r = .string (IS 0)) w) := by
 obtain ⟨p, c, rfl, V, U, X⟩ := Z.open;clear X Z;have Y : Hid (Value.string (⟨#[48]⟩ : ByteArray) = .string (IS 0)) := congrArg Value.string IS_zero.symm;go_enter Tryz.func100, Tryz.ntmps100;go_wp2;go_ret;exact ⟨_, rfl, Y.out, (Below.refl _ _).alloc (Nat.le_refl _) _⟩
theorem iBb {T e B b : Nat} {bs : List Value} {W W' : World} (h : Lib.IsBuilderF T e B b bs W) (Z : Below W.heap.size W W') : Lib.IsBuilderF T e B b bs W' := by
 have key : ∀ p, Lib.BuilderAtF T e B b p bs W -> Lib.BuilderAtF T e B b p bs W' := by
  intro p ⟨hB, v, hbk, hown, hne⟩;have Y : b < W.heap.size := (Array.getElem?_eq_some_iff.1 hbk).1;refine ⟨hB, v, (Z.block b Y).trans hbk, ?_, hne⟩;exact hown.kept (row := none) ⟨Z.os, Z.tape, Z.output, Z.size, fun k hk _ => Z.block k hk⟩ (by cases v.ownBlock <;> simp)
 exact h.imp (key _) (key _)
theorem ka0 {W W' : World} (Z : Below W.heap.size W W') : KeepsOthers W W' :=
 ⟨Z.size, fun k _ hk _ => (Z.block k (Array.getElem?_eq_some_iff.1 hk).1).trans hk⟩
theorem kOb {B b : Nat} {bs : List Value} {W W' : World} (h : BTo B b bs W W') (Z : ∀ o, W.heap[b]? = some o -> o.isCells = true) : KeepsOthers W W' :=
 ⟨h.2.1.size, fun k o hk ho => by
  refine h.2.2 k o hk (fun e => ?_) (fun c fz e => ?_)
  ·cases e
   rw [Z o hk] at ho; cases ho
  ·subst e; cases ho⟩
theorem iBc {T e B b : Nat} {bs : List Value} {W : World} (h : Lib.IsBuilderF T e B b bs W) : ∀ o, W.heap[b]? = some o -> o.isCells = true := by
 intro o Y;rcases h with ⟨_, v, Z, _⟩ | ⟨_, v, Z, _⟩ <;> (rw [Z] at Y; cases Y; rfl)
def signL (m : Bool) : List UInt8 := if m then [45] else []
theorem cin (n : Nat) (hn : 6 <= n) (w : World) (v : Value) (m : Bool) (k : Nat) (hk : 0 < k) (hF : Rd .u64 w v (lm B9 k)) (ht : (lm B9 k).length <= 1000000) (hg : Good w) :
 CallsIn Fence.wide n Tryz.prog 100 #[.agg #[.bool m, v]] w (Ret (fun r _ => r = .string (BS (signL m ++ decDigits k))) w) := by
 have h1 : 1 <= n := by omega
 have h0 := lnn B9 k tlB hk;have H := pd0 hk (Nat.pos_of_ne_zero (by simpa using h0)) (Nat.le_refl (lm B9 k).length);have hJ := lm_lt B9 k tlB;rw [Nat.sub_self, List.drop_zero, llm B9 k tlB] at H;obtain ⟨H, _⟩ := H;have hu := hF;obtain ⟨p, c, rfl, hc, hm, hr⟩ := hF.open;generalize lm B9 k = xs at *;have j := Lib.hid H;have ho := Lib.hid hJ;have hU := Lib.hid hu;have HR := Lib.hid hr;clear hF hu H hJ hr;have hT : 0 < xs.length := List.length_pos_iff.2 h0;have hR : ((xs.length : Int) == 0) = false := by simp; omega
 refine callsIn_of_wp_marks Tryz.func100 rfl trivial ?_ rfl;simp only [Tryz.ntmps100, List.size_toArray, List.length_cons, List.length_nil, Nat.reduceAdd, Nat.reduceSub, Array.replicate_succ, Array.replicate_zero, List.push_toArray, List.append_toArray, List.nil_append, List.cons_append];obtain ⟨z, I⟩ := zex ((w.alloc (.cells #[.bool m, .slice p xs.length c] 164)).alloc (.cells #[.pointer none, .slice none 0 0] 203));have hV : z.heap.size = w.heap.size + 2 := by rw [I]; simp
 have hO : Below w.heap.size w z := by rw [I]; exact zal2 _ _ _
 have hH : Lib.IsBuilderF 203 5 (w.heap.size + 1) (w.heap.size + 1) [] z := by
  rw [I];have := Lib.IsBuilderF.of (Lib.fresh_isBuilder 203 5 (w.alloc (.cells #[.bool m, .slice p xs.length c] 164)));simpa using this
 have he : z.cell? ⟨w.heap.size, 1, none⟩ = some (.slice p xs.length c) := by
  rw [I, World.cell?_alloc_past _ _ _ (by simp), World.cell?_alloc_at _ _ _ _ rfl]; rfl
 have HW := Lib.hid I;have hG := Lib.hid hH;have g := Lib.hid hO;clear hH;cases m
 case false =>
  gi_wp2_with fail;rw [<- I];clear I;obtain ⟨U, hq⟩ := zex z;have h7 : Lib.IsBuilderF 203 5 (w.heap.size + 1) (w.heap.size + 1) (Lib.byteCells (signL false)) U := by rw [hq]; exact hG.out
  have a : Below (w.heap.size + 1) z U := by rw [hq]; exact Below.refl _ _
  rw [<- hq];clear hq;refine ⟨trivial, ?_⟩;refine CallsIn.mono (callsIn_wide.2 (bay _ _ _ _)) ?_;rintro e w3 ⟨rfl, rfl⟩;gi_wp2_with fail;have hL : z.heap.size <= U.heap.size := a.size;have h6 : Below (w.heap.size + 1) z (U.alloc (.cells #[.slice p xs.length c] 162)) := a.alloc (by omega) _;have hv : Below w.heap.size w (U.alloc (.cells #[.slice p xs.length c] 162)) := g.out.trans (h6.mono (by omega));have hE : xs ≠ [] -> ∃ b off, p = some ⟨b, off, none⟩ /\ b < w.heap.size + 1 /\ ∀ (i : Nat) (hi : i < xs.length), (U.alloc (.cells #[.slice p xs.length c] 162)).cell? ⟨b, off + i, none⟩ = some (.int .u64 ((xs[i] : Nat) : Int)) := fun h0 => by
   obtain ⟨b, off, hp, hx, t⟩ := HR.out h0;exact ⟨b, off, hp, by omega, fun i hi => (zcq hv hx (t i hi) :)⟩
  refine wpIn_rangeFunc_ownF rfl h1 (gf := 177) (lb := #[.pointer (some ⟨U.heap.size, 0, none⟩)]) rfl trivial (enters_of Tryz.func177 (by kernel_rfl) rfl)
   (bss Fence.wide (n - 1) trivial rfl (by omega) U.heap.size (w.heap.size + 1) _ c xs ht _ (by simp) (by simp; omega) (World.cell?_alloc_at _ _ _ _ rfl) hE) (fun h k => KeepAt.trans h k) (kAb (by simp; omega) (by simp)) (Below.refl _ _) (fun _ => rfl)
   (fun (pre : List (Ix xs)) W => Lib.IsBuilderF 203 5 (w.heap.size + 1) (w.heap.size + 1) (Lib.byteCells (signL false ++ ppi xs (pre.map Subtype.val))) W /\ Below (w.heap.size + 1) z W /\ U.heap.size < W.heap.size /\ W.heap[U.heap.size]? = some (.cells #[.slice p xs.length c] 162))
   (fun _ _ _ => False)
   (fun s A B row hs hg' hr => ⟨bon hs.1 hg' (fun r e => (hr r e).2), hs.2.1.grown hg' (by have := hs.2.1.size; omega) (fun r e => by have := (hr r e).1; simp at this; omega), by have := hg'.size; omega, (grownBy_keeps_cells hg' (fun r e => (hr r e).2) hs.2.2.2 rfl).trans hs.2.2.2⟩)
   (fun _ _ _ _ _ hs _ _ => hs)
   ⟨by simpa [pnl] using Lib.IsBuilderF.alloc h7 _, h6, by simp, heap_alloc_new _ _⟩
   (fun C => { tmps := #[.agg #[.bool false, .slice p xs.length c], .pointer (some ⟨w.heap.size, 0, none⟩), .string ⟨#[]⟩, .pointer (some ⟨w.heap.size + 1, 0, none⟩), .int .i64 (C.1 : Int), .int .u64 (((xs[C.1]?.getD 0) : Nat) : Int), undef, .pointer (some ⟨w.heap.size, 1, none⟩), .slice p xs.length c, .int .i64 (xs.length : Int), .bool false, .pointer (some ⟨w.heap.size, 0, none⟩), .bool false, undef, .pointer (some ⟨w.heap.size, 1, none⟩), .slice p xs.length c, .func (.func 177) #[] #[.pointer (some ⟨U.heap.size, 0, none⟩)], .int .i64 (C.1 : Int), .int .u64 (((xs[C.1]?.getD 0) : Nat) : Int), undef, undef, undef, undef, undef, undef, undef, undef, undef, undef, undef, undef, undef, undef, undef], defers := [] }) ?_ ?_ ?_ ?_
  ·intro l x W K hK
   dsimp only [eBd]
   gi_wp2
   exact hK
  ·rintro l pre C W ⟨hI, d, E, R⟩ hQ
   generalize ha : C.1 = i;have h2 := Lib.hid ha;clear ha;have h9 : Good W := hg.below (g.out.trans (d.mono (by omega)));have hj := gDl ho.out i;have hf := pln ho.out (pre.map Subtype.val);rw [List.length_map] at hf;have M := zcq d (by simp) he;gi_wp2_with fail;refine ⟨trivial, by intro; omega, ?_⟩;refine CallsIn.mono (CallsIn.inRound l (callsIn_wide.2 (fUa (xs[i]?.getD 0) _ rfl (Nat.lt_of_lt_of_le hj (by decide)) W h9))) ?_;rintro e f ⟨_, rfl, rfl, V⟩;have hC := zcq V (by show w.heap.size < W.heap.size; omega) M;have J := iBb hI V;have h3 : Below (w.heap.size + 1) z f := d.trans (V.mono (by omega));have G : KeepsOthers W f := ka0 V;have hM := V.size;have Y : f.heap[U.heap.size]? = some (.cells #[.slice p xs.length c] 162) := (V.block _ E).trans R;have S : KeepAt (w.heap.size + 1) U.heap.size W f := ⟨V.mono (by omega), Y.trans R.symm⟩;have h8 := dh0 hj;have hP : (BS (decDigits (xs[i]?.getD 0))).size <= 9 := by rw [Bse]; exact h8
   have q : (signL false ++ ppi xs (pre.map Subtype.val)).length + 18 <= 1000000000 := by
    have : (signL false).length <= 1 := by decide
    simp only [List.length_append]; omega
   clear V M R d hI h9;by_cases hi : i < xs.length - 1
   ·have hy : (i : Int) < (xs.length : Int) - 1 := by omega
    have o := plt hi;have hS := zet (l := decDigits (xs[i]?.getD 0)) h8;gi_wp2_with fail;refine ⟨trivial, by intro; omega, ?_⟩;refine CallsIn.mono (CallsIn.inRound l (callsIn_wide.2 (wSa (w.heap.size + 1) (w.heap.size + 1) _ _ f J (by rw [bCl, Bse, List.length_replicate]; omega) (by omega)))) ?_;rintro e W4 ⟨rfl, Q⟩;have hb := kOb Q (iBc J);have hN := Q.2.1.size;have y : W4.heap[U.heap.size]? = some (.cells #[.slice p xs.length c] 162) := Q.2.2 _ _ Y (by simp; omega) (by simp);have h4 : Lib.IsBuilderF 203 5 (w.heap.size + 1) (w.heap.size + 1) _ W4 := Or.inr Q.1;gi_wp2_with fail;refine ⟨trivial, by intro; omega, ?_⟩;refine CallsIn.mono (CallsIn.inRound l (callsIn_wide.2 (wSa (w.heap.size + 1) (w.heap.size + 1) _ _ W4 h4 (by simp only [List.length_append, bCl, sCB, List.length_replicate]; simp only [List.length_append] at q; rw [Bse]; omega) (by omega)))) ?_;rintro e L ⟨rfl, Z⟩;have N := kOb Z (iBc h4);have hh := Z.2.1.size;have X : L.heap[U.heap.size]? = some (.cells #[.slice p xs.length c] 162) := Z.2.2 _ _ y (by simp; omega) (by simp);gi_wp2_with fail;have O : Lib.IsBuilderF 203 5 (w.heap.size + 1) (w.heap.size + 1) (Lib.byteCells (signL false ++ ppi xs ((pre ++ [C]).map Subtype.val))) L := by
     refine Or.inr ?_;rw [List.map_append, List.map_cons, List.map_nil, h2.out, psc, o];simpa [sCB, Lib.byteCells] using Z.1
    exact ⟨(G.trans hb).trans N, ⟨(S.1.trans Q.2.1).trans Z.2.1, X.trans (Y.symm.trans S.2)⟩, O, (h3.trans Q.2.1).trans Z.2.1, by omega, X⟩
   ·have hy : ¬ (i : Int) < (xs.length : Int) - 1 := by omega
    have o := pge hi;gi_wp2_with fail;refine ⟨trivial, by intro; omega, ?_⟩;refine CallsIn.mono (CallsIn.inRound l (callsIn_wide.2 (wSa (w.heap.size + 1) (w.heap.size + 1) _ _ f J (by rw [bCl]; omega) (by omega)))) ?_;rintro e L ⟨rfl, Z⟩;have N := kOb Z (iBc J);have hh := Z.2.1.size;have X : L.heap[U.heap.size]? = some (.cells #[.slice p xs.length c] 162) := Z.2.2 _ _ Y (by simp; omega) (by simp);gi_wp2_with fail;have O : Lib.IsBuilderF 203 5 (w.heap.size + 1) (w.heap.size + 1) (Lib.byteCells (signL false ++ ppi xs ((pre ++ [C]).map Subtype.val))) L := by
     refine Or.inr ?_;rw [List.map_append, List.map_cons, List.map_nil, h2.out, psc, o];simpa [sCB, Lib.byteCells] using Z.1
    exact ⟨G.trans N, ⟨S.1.trans Z.2.1, X.trans (Y.symm.trans S.2)⟩, O, h3.trans Z.2.1, by omega, X⟩
  ·rintro D ys W hD hl ⟨hI, d, E, R⟩ hK
   rw [hl] at hI;clear hl;have hd : signL false ++ ppi xs (bwd xs.length xs.length) ≠ [] := by rw [j.out]; simp [dDn]
   gi_wp2_with fail;refine ⟨trivial, ?_⟩;refine CallsIn.mono (callsIn_wide.2 (Tryz.Builder_String_k (w.heap.size + 1) (w.heap.size + 1) _ W hI hd)) ?_;rintro e L ⟨rfl, _, Z, hz⟩;have h5 : L.heap[D]? = some (.deferred (some [])) := hz _ _ hK (by simp at hD ⊢; omega) (by simp);gi_wp2_with fail;refine ⟨by simp, .inl ⟨_, _, rfl, run_takeDeferred h5, ?_⟩⟩;refine ⟨_, results_tmp rfl _ _ _, ?_⟩;refine ⟨_, rfl, by rw [<- j.out]; rfl, ?_⟩;have hw : Below w.heap.size w L := g.out.trans ((d.trans Z).mono (by omega));exact hw.trans (belowK_b (w := w) (Nat.le_refl _) L D _ _ (by simp at hD; omega) h5 rfl rfl)
  ·rintro D c pre W _ _ h _
   exact h.elim
 case true =>
  gi_wp2_with fail;rw [<- I];clear I;refine ⟨trivial, ?_⟩;refine CallsIn.mono (callsIn_wide.2 (wBa (w.heap.size + 1) (w.heap.size + 1) [] 45 z hG.out (by simp) (by omega))) ?_;rintro e U ⟨rfl, h7, a, _⟩;have hA := zcq a (by simp) he;gi_wp2_with fail;have h7 : Lib.IsBuilderF 203 5 (w.heap.size + 1) (w.heap.size + 1) (Lib.byteCells (signL true)) U := Or.inr (by simpa [signL, Lib.byteCells] using h7);clear hA;refine ⟨trivial, ?_⟩;refine CallsIn.mono (callsIn_wide.2 (bay _ _ _ _)) ?_;rintro e w3 ⟨rfl, rfl⟩;gi_wp2_with fail;have hL : z.heap.size <= U.heap.size := a.size;have h6 : Below (w.heap.size + 1) z (U.alloc (.cells #[.slice p xs.length c] 162)) := a.alloc (by omega) _;have hv : Below w.heap.size w (U.alloc (.cells #[.slice p xs.length c] 162)) := g.out.trans (h6.mono (by omega));have hE : xs ≠ [] -> ∃ b off, p = some ⟨b, off, none⟩ /\ b < w.heap.size + 1 /\ ∀ (i : Nat) (hi : i < xs.length), (U.alloc (.cells #[.slice p xs.length c] 162)).cell? ⟨b, off + i, none⟩ = some (.int .u64 ((xs[i] : Nat) : Int)) := fun h0 => by
   obtain ⟨b, off, hp, hx, t⟩ := HR.out h0;exact ⟨b, off, hp, by omega, fun i hi => (zcq hv hx (t i hi) :)⟩
  refine wpIn_rangeFunc_ownF rfl h1 (gf := 177) (lb := #[.pointer (some ⟨U.heap.size, 0, none⟩)]) rfl trivial (enters_of Tryz.func177 (by kernel_rfl) rfl)
   (bss Fence.wide (n - 1) trivial rfl (by omega) U.heap.size (w.heap.size + 1) _ c xs ht _ (by simp) (by simp; omega) (World.cell?_alloc_at _ _ _ _ rfl) hE) (fun h k => KeepAt.trans h k) (kAb (by simp; omega) (by simp)) (Below.refl _ _) (fun _ => rfl)
   (fun (pre : List (Ix xs)) W => Lib.IsBuilderF 203 5 (w.heap.size + 1) (w.heap.size + 1) (Lib.byteCells (signL true ++ ppi xs (pre.map Subtype.val))) W /\ Below (w.heap.size + 1) z W /\ U.heap.size < W.heap.size /\ W.heap[U.heap.size]? = some (.cells #[.slice p xs.length c] 162))
   (fun _ _ _ => False)
   (fun s A B row hs hg' hr => ⟨bon hs.1 hg' (fun r e => (hr r e).2), hs.2.1.grown hg' (by have := hs.2.1.size; omega) (fun r e => by have := (hr r e).1; simp at this; omega), by have := hg'.size; omega, (grownBy_keeps_cells hg' (fun r e => (hr r e).2) hs.2.2.2 rfl).trans hs.2.2.2⟩)
   (fun _ _ _ _ _ hs _ _ => hs)
   ⟨by simpa [pnl] using Lib.IsBuilderF.alloc h7 _, h6, by simp, heap_alloc_new _ _⟩
   (fun C => { tmps := #[.agg #[.bool true, .slice p xs.length c], .pointer (some ⟨w.heap.size, 0, none⟩), .string ⟨#[]⟩, .pointer (some ⟨w.heap.size + 1, 0, none⟩), .int .i64 (C.1 : Int), .int .u64 (((xs[C.1]?.getD 0) : Nat) : Int), undef, .pointer (some ⟨w.heap.size, 1, none⟩), .slice p xs.length c, .int .i64 (xs.length : Int), .bool false, .pointer (some ⟨w.heap.size, 0, none⟩), .bool true, .nilIface, .pointer (some ⟨w.heap.size, 1, none⟩), .slice p xs.length c, .func (.func 177) #[] #[.pointer (some ⟨U.heap.size, 0, none⟩)], .int .i64 (C.1 : Int), .int .u64 (((xs[C.1]?.getD 0) : Nat) : Int), undef, undef, undef, undef, undef, undef, undef, undef, undef, undef, undef, undef, undef, undef, undef], defers := [] }) ?_ ?_ ?_ ?_
  ·intro l x W K hK
   dsimp only [eBd]
   gi_wp2
   exact hK
  ·rintro l pre C W ⟨hI, d, E, R⟩ hQ
   generalize ha : C.1 = i;have h2 := Lib.hid ha;clear ha;have h9 : Good W := hg.below (g.out.trans (d.mono (by omega)));have hj := gDl ho.out i;have hf := pln ho.out (pre.map Subtype.val);rw [List.length_map] at hf;have M := zcq d (by simp) he;gi_wp2_with fail;refine ⟨trivial, by intro; omega, ?_⟩;refine CallsIn.mono (CallsIn.inRound l (callsIn_wide.2 (fUa (xs[i]?.getD 0) _ rfl (Nat.lt_of_lt_of_le hj (by decide)) W h9))) ?_;rintro e f ⟨_, rfl, rfl, V⟩;have hC := zcq V (by show w.heap.size < W.heap.size; omega) M;have J := iBb hI V;have h3 : Below (w.heap.size + 1) z f := d.trans (V.mono (by omega));have G : KeepsOthers W f := ka0 V;have hM := V.size;have Y : f.heap[U.heap.size]? = some (.cells #[.slice p xs.length c] 162) := (V.block _ E).trans R;have S : KeepAt (w.heap.size + 1) U.heap.size W f := ⟨V.mono (by omega), Y.trans R.symm⟩;have h8 := dh0 hj;have hP : (BS (decDigits (xs[i]?.getD 0))).size <= 9 := by rw [Bse]; exact h8
   have q : (signL true ++ ppi xs (pre.map Subtype.val)).length + 18 <= 1000000000 := by
    have : (signL true).length <= 1 := by decide
    simp only [List.length_append]; omega
   clear V M R d hI h9;by_cases hi : i < xs.length - 1
   ·have hy : (i : Int) < (xs.length : Int) - 1 := by omega
    have o := plt hi;have hS := zet (l := decDigits (xs[i]?.getD 0)) h8;gi_wp2_with fail;refine ⟨trivial, by intro; omega, ?_⟩;refine CallsIn.mono (CallsIn.inRound l (callsIn_wide.2 (wSa (w.heap.size + 1) (w.heap.size + 1) _ _ f J (by rw [bCl, Bse, List.length_replicate]; omega) (by omega)))) ?_;rintro e W4 ⟨rfl, Q⟩;have hb := kOb Q (iBc J);have hN := Q.2.1.size;have y : W4.heap[U.heap.size]? = some (.cells #[.slice p xs.length c] 162) := Q.2.2 _ _ Y (by simp; omega) (by simp);have h4 : Lib.IsBuilderF 203 5 (w.heap.size + 1) (w.heap.size + 1) _ W4 := Or.inr Q.1;gi_wp2_with fail;refine ⟨trivial, by intro; omega, ?_⟩;refine CallsIn.mono (CallsIn.inRound l (callsIn_wide.2 (wSa (w.heap.size + 1) (w.heap.size + 1) _ _ W4 h4 (by simp only [List.length_append, bCl, sCB, List.length_replicate]; simp only [List.length_append] at q; rw [Bse]; omega) (by omega)))) ?_;rintro e L ⟨rfl, Z⟩;have N := kOb Z (iBc h4);have hh := Z.2.1.size;have X : L.heap[U.heap.size]? = some (.cells #[.slice p xs.length c] 162) := Z.2.2 _ _ y (by simp; omega) (by simp);gi_wp2_with fail;have O : Lib.IsBuilderF 203 5 (w.heap.size + 1) (w.heap.size + 1) (Lib.byteCells (signL true ++ ppi xs ((pre ++ [C]).map Subtype.val))) L := by
     refine Or.inr ?_;rw [List.map_append, List.map_cons, List.map_nil, h2.out, psc, o];simpa [sCB, Lib.byteCells] using Z.1
    exact ⟨(G.trans hb).trans N, ⟨(S.1.trans Q.2.1).trans Z.2.1, X.trans (Y.symm.trans S.2)⟩, O, (h3.trans Q.2.1).trans Z.2.1, by omega, X⟩
   ·have hy : ¬ (i : Int) < (xs.length : Int) - 1 := by omega
    have o := pge hi;gi_wp2_with fail;refine ⟨trivial, by intro; omega, ?_⟩;refine CallsIn.mono (CallsIn.inRound l (callsIn_wide.2 (wSa (w.heap.size + 1) (w.heap.size + 1) _ _ f J (by rw [bCl]; omega) (by omega)))) ?_;rintro e L ⟨rfl, Z⟩;have N := kOb Z (iBc J);have hh := Z.2.1.size;have X : L.heap[U.heap.size]? = some (.cells #[.slice p xs.length c] 162) := Z.2.2 _ _ Y (by simp; omega) (by simp);gi_wp2_with fail;have O : Lib.IsBuilderF 203 5 (w.heap.size + 1) (w.heap.size + 1) (Lib.byteCells (signL true ++ ppi xs ((pre ++ [C]).map Subtype.val))) L := by
     refine Or.inr ?_;rw [List.map_append, List.map_cons, List.map_nil, h2.out, psc, o];simpa [sCB, Lib.byteCells] using Z.1
    exact ⟨G.trans N, ⟨S.1.trans Z.2.1, X.trans (Y.symm.trans S.2)⟩, O, h3.trans Z.2.1, by omega, X⟩
  ·rintro D ys W hD hl ⟨hI, d, E, R⟩ hK
   rw [hl] at hI;clear hl;have hd : signL true ++ ppi xs (bwd xs.length xs.length) ≠ [] := by rw [j.out]; simp [dDn]
   gi_wp2_with fail;refine ⟨trivial, ?_⟩;refine CallsIn.mono (callsIn_wide.2 (Tryz.Builder_String_k (w.heap.size + 1) (w.heap.size + 1) _ W hI hd)) ?_;rintro e L ⟨rfl, _, Z, hz⟩;have h5 : L.heap[D]? = some (.deferred (some [])) := hz _ _ hK (by simp at hD ⊢; omega) (by simp);gi_wp2_with fail;refine ⟨by simp, .inl ⟨_, _, rfl, run_takeDeferred h5, ?_⟩⟩;refine ⟨_, results_tmp rfl _ _ _, ?_⟩;refine ⟨_, rfl, by rw [<- j.out]; rfl, ?_⟩;have hw : Below w.heap.size w L := g.out.trans ((d.trans Z).mono (by omega));exact hw.trans (belowK_b (w := w) (Nat.le_refl _) L D _ _ (by simp at hD; omega) h5 rfl rfl)
  ·rintro D c pre W _ _ h _
   exact h.elim
theorem cay (w : World) (v : Value) (m : Bool) (k : Nat) (Z : Rd .u64 w v (lm B9 k)) (Y : (lm B9 k).length <= 1000000) (V : Good w) :
 Calls Tryz.prog 100 #[.agg #[.bool m, v]] w (Ret (fun r _ => r = .string (IS (if m then -(k : Int) else k))) w) := by
 rcases Nat.eq_zero_or_pos k with rfl | U
 ·rw [lzo] at Z
  refine zR (czo w v m Z) fun w' X => ?_;exact ⟨_, rfl, by cases m <;> rfl, X⟩
 ·refine (callsIn_wide.1 (cin 6 (by omega) w v m k U Z Y V)).mono ?_
  rintro e w' ⟨_, rfl, rfl, X⟩;refine ⟨_, rfl, ?_, X⟩;congr 1;cases m
  ·show BS (decDigits k) = IS (k : Int)
   unfold IS; rw [ib0]; rfl
  ·show BS (45 :: decDigits k) = IS (-(k : Int))
   unfold IS; rw [ia0 (by omega)]; simp [BS]
end Go.Proofs.YtmcbeajdloaliaaGreatDoor
