import Derived.Shelf.Strings.BuilderK
import Derived.Lib.FrozenHead2
import Derived.Test.YtgdpoankaojklaaGreatDoorShelf
import Derived.Test.YtgdpoankaojklaaGreatDoorVB1
import Derived.Lib.AppendIntMem
import Derived.Lib.SmallJoins
import Derived.RangeFuncNested
import Derived.RangeFuncBound
import Derived.RangeFuncCalls
import Derived.RangeFuncBox
import Derived.RangeFuncLeaves
import Derived.Shelf.Abstract
import Derived.OwnWalkIn
import Derived.TacticsInMore
import Derived.LoopNIn
import Derived.LoopIn
import Derived.OrdersIn
/- Strings.Builder, strconv, strings, slices.Backward, integer.close; regions that draw their order. -/
set_option maxHeartbeats 4000000
set_option maxRecDepth 100000
namespace Go.Proofs.YtgdpoankaojklaaGreatDoor
open Go.RowKit
def BuiltTo (B b : Nat) (bs : List Value) (w w' : World) : Prop :=
 Lib.BuilderAtF 225 5 B b (.pointer (some ⟨b, 0, none⟩)) bs w' /\ Below B w w' /\ Lib.OthersKept 5 (some b) w w'
theorem builder_size : (Tryz.prog.info? 225).map (·.size) = some 2 := by kernel_rfl
theorem builder_lies : liesAt Tryz.prog Tryz.prog.depth 225 (2 / Tryz.prog.cellsOf 225) 0 225 1 = true := by kernel_rfl
theorem byte_info : (Tryz.prog.info? 5).map (fun i => (i.zero, i.size, i.bytes)) = some (some (.int .u8 0), 1, 1) := by kernel_rfl
theorem builder_ne_byte : (225 : Nat) ≠ 5 := by decide
theorem copyCheck_any (B b : Nat) (bs : List Value) (w : World) (h : Lib.IsBuilderF 225 5 B b bs w) :
 Calls Tryz.prog 201 #[.pointer (some ⟨b, 0, none⟩)] w fun e w' => e = .returned (.tuple #[]) /\ BuiltTo B b bs w w' := by
 have u70 := run_underlying Tryz.underlying223;have u262 := run_underlying Tryz.underlying292;obtain ⟨j, hj, hjs⟩ := Option.map_eq_some_iff.1 builder_size;rcases h with h | h
 ·have hc0 := h.cell0
  have hf0 := h.frozen0;have hsh := h.shape;have fin : ∀ e w', e = Ending.returned (.tuple #[]) /\ w' = w.setCell ⟨b, 0, none⟩ (.pointer (some ⟨b, 0, none⟩)) -> e = Ending.returned (.tuple #[]) /\ BuiltTo B b bs w w' := by
   rintro e w' ⟨rfl, rfl⟩;exact ⟨rfl, h.used _, (Below.refl B w).setCell (p := ⟨b, 0, none⟩) h.1 _, (Lib.OthersKept.refl _ _ w).setCell ⟨b, 0, none⟩ rfl _⟩
  refine Calls.mono (R := fun e w' => e = Ending.returned (.tuple #[]) /\ w' = w.setCell ⟨b, 0, none⟩ (.pointer (some ⟨b, 0, none⟩))) ?_ fin;have hc1 : (w.setCell ⟨b, 0, none⟩ (.pointer (some ⟨b, 0, none⟩))).cell? ⟨b, 0, none⟩ = some (.pointer (some ⟨b, 0, none⟩)) := World.cell?_setCell_same' _ _ _ (by rw [hc0]; rfl);clear h fin;go_enter Tryz.func201, Tryz.ntmps201;go_wp2;rw [Lib.run_to_unsafe w ⟨b, 0, none⟩ Tryz.underlying223 Tryz.underlying292 hj (by rw [hjs]; decide) hsh (Nat.zero_lt_succ 1)];simp only [Result.andThen];rw [Oper.upon_value];go_wp2;rw [run_callFunc_extern Tryz.func239 (by kernel_rfl) (by kernel_rfl) (by kernel_rfl) (e := Extern.AbiNoEscape.same) (by kernel_rfl)];rw [Lib.run_noEscape];simp only [Result.andThen];rw [Oper.upon_value];go_wp2;rw [Lib.run_from_unsafe w ⟨b, 0, none⟩ Tryz.underlying292 Tryz.underlying223 hj hsh builder_lies];simp only [Result.andThen];rw [Oper.upon_value];go_wp2;go_end0;exact ⟨rfl, rfl⟩
 ·have hc0 := h.cell0
  have HB : Hid (BuiltTo B b bs w w) := ⟨h, Below.refl B _, Lib.OthersKept.refl _ _ _⟩;clear h;go_enter Tryz.func201, Tryz.ntmps201;go_wp2;rw [Lib.run_neq_ptr_same w _ Tryz.underlying223 hj];go_wp2;go_end0;exact ⟨rfl, HB.out⟩
theorem writeByte_any (B b : Nat) (bs : List Value) (c : Int) (w : World) (h : Lib.IsBuilderF 225 5 B b bs w) (hlen : bs.length + 1 <= 1000000000) (hBw : B <= w.heap.size) :
 Calls Tryz.prog 159 #[.pointer (some ⟨b, 0, none⟩), .int .u8 c] w fun e w' => e = .returned .nilIface /\ BuiltTo B b (bs ++ [.int .u8 c]) w w' := by
 obtain ⟨i0, hi, hz0, hz1, hz2⟩ := info_parts byte_info;have u70 := run_underlying Tryz.underlying223;go_enter Tryz.func159, Tryz.ntmps159;go_wp2_with fail;refine (copyCheck_any B b bs _ h).mono ?_;rintro e w1 ⟨rfl, h1, hb1, hk1⟩;obtain ⟨hB, v, hbk, hown, hne⟩ := h1;have c0 : w1.cell? ⟨b, 0, none⟩ = some (.pointer (some ⟨b, 0, none⟩)) := by rw [Lib.cell_of_heap hbk]; rfl
 have c1 : w1.cell? ⟨b, 1, none⟩ = some v := by rw [Lib.cell_of_heap hbk]; rfl
 go_wp2_with (at_builtin; refine wpList_append_ownF _ rfl _ _ 108 rfl B 5 i0 (.int .u8 0) 1 1 Tryz.underlying108 hi hz0 hz1 hz2 rfl (by decide) _ _ _ rfl (hown.alloc _) ⟨w1.heap.size, 0, none⟩ 1 1 [.int .u8 c] rfl rfl (cell_one_new _ _ _) (by intro u hu; simp at hu; subst hu; rfl) (by unfold maxLen; omega) (by omega) (by have := hb1.size; simp; omega) ?_);intro v' w2 hown' hgrow _;have hlt : b < w1.heap.size := (Array.getElem?_eq_some_iff.1 hbk).1;have hb2 : w2.heap[b]? = some (.cells #[.pointer (some ⟨b, 0, none⟩), v] 225 (0, 0)) := by
  rw [hgrow.block b (by simp; omega) (fun e => hne e.symm), Lib.alloc_old w1 _ b hlt];exact hbk
 have d0 : w2.cell? ⟨b, 0, none⟩ = some (.pointer (some ⟨b, 0, none⟩)) := by rw [Lib.cell_of_heap hb2]; rfl
 have d1 : w2.cell? ⟨b, 1, none⟩ = some v := by rw [Lib.cell_of_heap hb2]; rfl
 have f1 : w2.frozen? ⟨b, 1, none⟩ = false := Lib.frozen_of_heap hb2 1;obtain ⟨g, cap, rfl⟩ : ∃ g cap, v' = .slice (some ⟨g, 0, none⟩) (bs.length + 1) cap := by
  rcases hown'.2 with ⟨_, h0⟩ | ⟨g, cap, cur, fz, hv, _⟩
  ·omega
  ·exact ⟨g, cap, hv⟩
 go_wp2;go_ret;refine ⟨rfl, ?_, ?_, ((hk1.alloc _).grown hgrow (Lib.ownsRowF_kind (hown.alloc _))).setCell ⟨b, 1, none⟩ rfl _⟩
 ·exact Lib.BuilderAtF.put (T := 225) (e := 5) hB hb2 (bs' := bs ++ [.int .u8 c]) (by simpa using hown') builder_ne_byte
 ·exact ((hb1.alloc (by have := hb1.size; omega) _).grown hgrow (by have := hb1.size; simp; omega) (fun k hk => (hown.lt k hk).1)).setCell (p := ⟨b, 1, none⟩) hB _
theorem writeString_any (B b : Nat) (bs : List Value) (s : ByteArray) (w : World) (h : Lib.IsBuilderF 225 5 B b bs w) (hlen : bs.length + s.size <= 1000000000) (hBw : B <= w.heap.size) :
 Calls Tryz.prog 162 #[.pointer (some ⟨b, 0, none⟩), .string s] w fun e w' => e = .returned (.tuple #[.int .i64 s.size, .nilIface]) /\ BuiltTo B b (bs ++ Lib.strCells s) w w' := by
 obtain ⟨i0, hi, hz0, hz1, hz2⟩ := info_parts byte_info;have u70 := run_underlying Tryz.underlying223;go_enter Tryz.func162, Tryz.ntmps162;go_wp2_with fail;refine (copyCheck_any B b bs _ h).mono ?_;rintro e w1 ⟨rfl, h1, hb1, hk1⟩;obtain ⟨hB, v, hbk, hown, hne⟩ := h1;have c0 : w1.cell? ⟨b, 0, none⟩ = some (.pointer (some ⟨b, 0, none⟩)) := by rw [Lib.cell_of_heap hbk]; rfl
 have c1 : w1.cell? ⟨b, 1, none⟩ = some v := by rw [Lib.cell_of_heap hbk]; rfl
 go_wp2_with (at_builtin; refine Lib.wpList_append_own_stringF _ rfl _ _ 108 9 rfl B 5 i0 Tryz.underlying108 Tryz.underlying9 hi hz0 hz1 hz2 _ _ _ rfl hown s rfl (by unfold maxLen; omega) (by omega) (by have := hb1.size; omega) ?_);intro v' w2 hown' hgrow _;have hlt : b < w1.heap.size := (Array.getElem?_eq_some_iff.1 hbk).1;have hb2 : w2.heap[b]? = some (.cells #[.pointer (some ⟨b, 0, none⟩), v] 225 (0, 0)) := by
  rw [hgrow.block b hlt (fun e => hne e.symm)];exact hbk
 have d0 : w2.cell? ⟨b, 0, none⟩ = some (.pointer (some ⟨b, 0, none⟩)) := by rw [Lib.cell_of_heap hb2]; rfl
 have d1 : w2.cell? ⟨b, 1, none⟩ = some v := by rw [Lib.cell_of_heap hb2]; rfl
 have f1 : w2.frozen? ⟨b, 1, none⟩ = false := Lib.frozen_of_heap hb2 1;obtain ⟨ao, n', cap, rfl⟩ : ∃ ao n' cap, v' = .slice ao n' cap := by
  rcases hown'.2 with ⟨hv, _⟩ | ⟨g, cap, cur, fz, hv, _⟩
  ·exact ⟨_, _, _, hv⟩
  ·exact ⟨_, _, _, hv⟩
 go_wp2;go_ret2;refine ⟨rfl, ?_, ?_, (hk1.grown hgrow (Lib.ownsRowF_kind hown)).setCell ⟨b, 1, none⟩ rfl _⟩
 ·exact Lib.BuilderAtF.put (T := 225) (e := 5) hB hb2 (bs' := bs ++ Lib.strCells s) (by simpa [Lib.strCells_length] using hown') builder_ne_byte
 ·exact (hb1.grown hgrow (by have := hb1.size; omega) (fun k hk => (hown.lt k hk).1)).setCell (p := ⟨b, 1, none⟩) hB _
open Go.Lib
def BS (l : List UInt8) : ByteArray := ⟨l.toArray⟩
theorem BS_list (l : List UInt8) : (BS l).data.toList = l := by simp [BS]
theorem BS_size (l : List UInt8) : (BS l).size = l.length := by simp [BS, ByteArray.size]
structure Good (w : World) : Prop where
 tab : Lib.TabIs Tryz.prog w "internal/strconv.uint64pow10" .u64 Lib.pow10Tab
 maxLen : ∃ m, w.cell? ⟨0, 0, none⟩ = some (.int .i64 m)
theorem globalTab : Tryz.prog.globalNamed "internal/strconv.uint64pow10" = some 1 := by kernel_rfl
theorem Good.below {w w' : World} (h : Good w) (hb : Below w.heap.size w w') : Good w' := by
 obtain ⟨h1, m, h2⟩ := h;have hlt : 1 < w.heap.size := by
  unfold Lib.TabIs World.var? at h1;rw [globalTab] at h1;simp only [Option.bind_some] at h1;cases hh : w.heap[1]? with
  | none => rw [hh] at h1; simp at h1
  | some o => exact (Array.getElem?_eq_some_iff.1 hh).1
 refine ⟨var?_below hb globalTab hlt h1, m, ?_⟩;rw [hb.cell (World.block_lt_of_cell? w _ h2)];exact h2
theorem Good.alloc {w : World} (h : Good w) (o : Obj) : Good (w.alloc o) := h.below ((Below.refl _ _).alloc (Nat.le_refl _) o)
theorem Good.drewN {w : World} (h : Good w) (n : Nat) : Good (w.drewN n) := h.below (below_drewN w n)
theorem itoa_any (n : Int) (h0 : -9223372036854775808 <= n) (h1 : n <= 9223372036854775807) (w : World) (hg : Good w) :
 Calls Tryz.prog 111 #[.int .i64 n] w (Ret (fun v _ => v = .string (IS n)) w) := by
 refine (Tryz.strconv_Itoa n h0 h1 w hg.tab).mono ?_;rintro e w' ⟨rfl, k, os, rfl⟩;exact ⟨_, rfl, rfl, Lib.below_grow _ _ (Nat.le_refl _) _ _⟩
theorem atoi_any (n : Int) (hl : (IS n).size <= 18) (w : World) :
 Calls Tryz.prog 156 #[.string (IS n)] w (Ret (fun v _ => v = .tuple #[.int .i64 n, .nilIface]) w) := by
 refine (Tryz.strconv_Atoi (IS n) n hl (by rw [IS_list]; exact atoi_itoa n) w).mono ?_;rintro e w' ⟨rfl, t, rfl⟩;exact ⟨_, rfl, rfl, Go.Joins.below_bytesWorld _ _ _ _ (Nat.le_refl _)⟩
theorem parseUint_any (l : List UInt8) (hd : ∀ c ∈ l, isDig c) (hne : l ≠ []) (hl : l.length <= 9) (w : World) :
 Calls Tryz.prog 157 #[.string (BS l), .int .i64 10, .int .i64 64] w (Ret (fun v _ => v = .tuple #[.int .u64 (dval l), .nilIface]) w) := by
 refine (Tryz.strconv_ParseUint_10_at64_ok (BS l) (by rw [BS_size]; omega) (dval l) (by rw [BS_list]; exact parseUintB_dig hd hne hl) w).mono ?_;rintro e w' ⟨rfl, rfl | rfl⟩
 ·exact ⟨_, rfl, rfl, Below.refl _ _⟩
 ·exact ⟨_, rfl, rfl, Go.Joins.below_bytesWorld _ _ _ _ (Nat.le_refl _)⟩
theorem formatUint_in (u : Nat) (uz : Int) (huz : uz = (u : Int)) (hu64 : u < 18446744073709551616) (w : World) (hg : Good w) :
 Calls Tryz.prog 203 #[.int .u64 uz, .int .i64 10] w (Ret (fun v _ => v = .string (BS (decDigits u))) w) := by
 by_cases hs : u < 100
 ·have h1 : uz < 100 := by omega
  have h0 : 0 <= uz := by omega
  have HU := Lib.hid huz;clear huz;go_enter Tryz.func203, Tryz.ntmps203;go_wp2_with fail;rw [HU.out];refine (Tryz.internal_strconv_small u hs _).mono ?_;rintro e w' ⟨rfl, rfl⟩;go_wp2_with fail;go_ret;exact ⟨_, rfl, rfl, Below.refl _ _⟩
 ·subst huz
  have hu1 : 1 <= u := by omega
  have hnd20 : Lib.nDigits u <= 20 := by have := Lib.numDigits_eq u hu1 hu64; split at this <;> omega
  have h1 : ¬ (u : Int) < 100 := by omega
  have hal : Tryz.prog.arrayLen 280 = 24 := by simp [Program.arrayLen, Tryz.underlying280]
  have hsl1 : ∀ W, (Instr.sliceAt 280 (.pointer (some ⟨w.heap.size, 0, none⟩)) none (some (.int .i64 (Lib.nDigits u : Int))) none).run Tryz.prog W = .ok (.slice (some ⟨w.heap.size, 0, none⟩) (Lib.nDigits u) 24) W := fun W => by
   rw [run_sliceAt_array_h W 280 ⟨w.heap.size, 0, none⟩ (by simp [Program.arrayLen, Program.elem, Tryz.underlying280]) .i64 (Lib.nDigits u : Int) (by omega) (by rw [hal]; omega)];go_simp
  have hH0 := Lib.holds_zero0 w 280 (Lib.nDigits u) (by omega);have hfmt := Tryz.internal_strconv_formatBase10 w.heap.size 0 24 u (Array.replicate (Lib.nDigits u) 0) (w.alloc (.cells Lib.zeros24 280)) hH0 (by rw [Array.size_replicate]; exact Lib.lt_pow_nDigits u) hu64 (by rw [Array.size_replicate]; omega);rw [Array.size_replicate] at hfmt;have HH0 := Lib.hid hH0;have htab := hg.tab;clear hH0 hal;go_enter Tryz.func203, Tryz.ntmps203;go_wp2_with fail;refine (Tryz.internal_strconv_numDigits u hu1 hu64 _ (Lib.tabIs_alloc htab _)).mono ?_;rintro e w' ⟨rfl, rfl⟩;go_wp2_with fail;refine hfmt.mono ?_;rintro e w' ⟨rfl, k, v', dk, rfl, hF⟩;have hcv : (convert 108 9 (.slice (some ⟨w.heap.size, 0, none⟩) (Lib.nDigits u) 24)).run Tryz.prog ((Sort.putRow (fun (b : UInt8) => Value.int .u8 (b.toNat : Int)) (w.alloc (.cells Lib.zeros24 280)) w.heap.size 0 dk).drewN k) = .ok (.string ⟨(Lib.decDigits u).toArray⟩) ((Sort.putRow (fun (b : UInt8) => Value.int .u8 (b.toNat : Int)) (w.alloc (.cells Lib.zeros24 280)) w.heap.size 0 dk).drewN k) := by
   have h := run_convert_bytes_back (P := Tryz.prog) ((Sort.putRow (fun (b : UInt8) => Value.int .u8 (b.toNat : Int)) (w.alloc (.cells Lib.zeros24 280)) w.heap.size 0 dk).drewN k) 108 9 5 ⟨w.heap.size, 0, none⟩ 24 (Lib.decDigits u) Tryz.underlying108 Tryz.underlying5 Tryz.underlying9 (fun j hj => by
    rw [Lib.row_is_numeral hF j hj, Lib.add_plain, World.cell?_drewN];exact Sort.cell?_putRow (fun (b : UInt8) => Value.int .u8 (b.toNat : Int)) _ w.heap.size 0 _ dk HH0.out (by rw [hF.size, Array.size_replicate]) j (by rw [hF.size]; rw [Lib.decDigits_length] at hj; exact hj))
   rw [Lib.decDigits_length] at h;exact h
  go_wp2_with fail;go_ret;obtain ⟨os, eo⟩ := Lib.fin_at w (.cells Lib.zeros24 280) dk k 0;exact ⟨_, rfl, rfl, by rw [eo]; exact Lib.below_grow _ _ (Nat.le_refl _) _ _⟩
theorem formatUint_any (u : Nat) (uz : Int) (huz : uz = (u : Int)) (hu64 : u < 18446744073709551616) (w : World) (hg : Good w) :
 Calls Tryz.prog 161 #[.int .u64 uz, .int .i64 10] w (Ret (fun v _ => v = .string (BS (decDigits u))) w) := by
 have HU := Lib.hid huz;clear huz;go_enter Tryz.func161, Tryz.ntmps161;go_wp2_with fail;refine (formatUint_in u uz HU.out hu64 w hg).mono ?_;rintro e w' ⟨_, rfl, rfl, hb⟩;go_wp2_with fail;go_ret;exact ⟨_, rfl, rfl, hb⟩
theorem cut_any (s : ByteArray) (hs : s.size < 1000000000) (w : World) (hg : Good w) :
 Calls Tryz.prog 108 #[.string s, .string ⟨#[47]⟩] w (Drawn (fun v => v = .tuple #[.string (BS (cut s.data.toList [47]).1), .string (BS (cut s.data.toList [47]).2.1), .bool (cut s.data.toList [47]).2.2]) w) := by
 obtain ⟨m, hm⟩ := hg.maxLen;refine (Tryz.strings_Cut s ⟨#[47]⟩ m w (by omega) hm).mono ?_;rintro e w' ⟨rfl, n, rfl⟩;exact ⟨_, rfl, rfl, n, rfl⟩
theorem cutMinus_any (s : ByteArray) (w : World) :
 Calls Tryz.prog 152 #[.string s, .string ⟨#[45]⟩] w (Same (fun v => v = .tuple #[.string (BS (trimPrefix s.data.toList [45])), .bool (hasPrefix s.data.toList [45])]) w) := by
 refine (Tryz.strings_CutPrefix s ⟨#[45]⟩ w).mono ?_;rintro e w' ⟨rfl, rfl⟩;exact ⟨_, rfl, rfl, rfl⟩
theorem trimMinus_any (s : ByteArray) (w : World) :
 Calls Tryz.prog 130 #[.string s, .string ⟨#[45]⟩] w (Same (fun v => v = .string (BS (trimPrefix s.data.toList [45]))) w) := by
 refine (Tryz.strings_TrimPrefix s ⟨#[45]⟩ w).mono ?_;rintro e w' ⟨rfl, rfl⟩;exact ⟨_, rfl, rfl, rfl⟩
theorem hasMinus_any (s : ByteArray) (w : World) :
 Calls Tryz.prog 155 #[.string s, .string ⟨#[45]⟩] w (Same (fun v => v = .bool (hasPrefix s.data.toList [45])) w) := by
 refine (Tryz.strings_HasPrefix s ⟨#[45]⟩ w).mono ?_;rintro e w' ⟨rfl, rfl⟩;exact ⟨_, rfl, rfl, rfl⟩
theorem scompare_any (s t : ByteArray) (w : World) :
 Calls Tryz.prog 131 #[.string s, .string t] w (Same (fun v => v = .int .i64 (compareBytes s.data.toList t.data.toList)) w) := by
 refine (Tryz.strings_Compare s t w).mono ?_;rintro e w' ⟨rfl, rfl⟩;exact ⟨_, rfl, rfl, rfl⟩
end Go.Proofs.YtgdpoankaojklaaGreatDoor
namespace Go.Proofs.YtgdpoankaojklaaGreatDoor
open Go.RowKit Go.Shelf
attribute [local go_sem] Oper.semAt_some
def bwd (N k : Nat) : List Nat := (List.range k).map fun j => N - 1 - j
theorem bwd_succ (N k : Nat) : bwd N (k + 1) = bwd N k ++ [N - 1 - k] := by simp [bwd, List.range_succ]
theorem bwd_length (N k : Nat) : (bwd N k).length = k := by simp [bwd]
def encBwd (xs : List Nat) (i : Nat) : Array Value := #[.int .i64 (i : Int), .int .u64 (((xs[i]?).getD 0 : Nat) : Int)]
abbrev Ix (xs : List Nat) := { i : Nat // i < xs.length }
def KeepAt (n₀ Bs : Nat) (A B : World) : Prop := Below n₀ A B /\ B.heap[Bs]? = A.heap[Bs]?
theorem KeepAt.refl (n₀ Bs : Nat) (A : World) : KeepAt n₀ Bs A A := ⟨Below.refl _ _, rfl⟩
theorem KeepAt.trans {n₀ Bs : Nat} {A B C : World} (h : KeepAt n₀ Bs A B) (k : KeepAt n₀ Bs B C) : KeepAt n₀ Bs A C := ⟨h.1.trans k.1, k.2.trans h.2⟩
theorem KeepAt.cell {n₀ Bs : Nat} {A B : World} (h : KeepAt n₀ Bs A B) : B.cell? ⟨Bs, 0, none⟩ = A.cell? ⟨Bs, 0, none⟩ := World.cell?_of_block h.2
theorem keepAt_b {n₀ Bs : Nat} {w : World} (hn : n₀ <= w.heap.size) (hB : Bs < w.heap.size) (W : World) (l : Nat) (o o' : Obj) (hl : w.heap.size <= l) (h : W.heap[l]? = some o) (h1 : o.isCells = false) (h2 : o.isWalk = false) : KeepAt n₀ Bs W (W.putObj l o') :=
 ⟨belowK_b hn W l o o' hl h h1 h2, World.putObj_heap_other (by omega)⟩
theorem bwd_in (F : Fence) (n : Nat) (h7 : F.fn 202) (hro : F.round = none) (hn : 1 <= n) (l Bs n₀ : Nat) (p : Option Addr) (c : Nat) (xs : List Nat)
 (hlen : xs.length <= 1000000) (J Jx : List (Ix xs) -> World -> Prop)
 (hY : ∀ pre x W, J pre W -> pre.length < xs.length -> YieldAt F (n - 1) Tryz.prog l (encBwd xs x.1) W fun e W' =>
   (e = .returned (.bool true) /\ J (pre ++ [x]) W' /\ KeepAt n₀ Bs W W') \/ (e = .returned (.bool false) /\ Jx (pre ++ [x]) W'))
 (W : World) (hBs : W.cell? ⟨Bs, 0, none⟩ = some (.slice p xs.length c))
 (hc : xs ≠ [] -> ∃ b off, p = some ⟨b, off, none⟩ /\ b < n₀ /\ ∀ (i : Nat) (hi : i < xs.length), W.cell? ⟨b, off + i, none⟩ = some (.int .u64 ((xs[i] : Nat) : Int))) (h0 : J [] W) :
 CallsIn F n Tryz.prog 202 #[.func (.yield l) #[] #[], .pointer (some ⟨Bs, 0, none⟩)] W fun e W' => (∃ v, e = .returned v) /\
  ((∃ ys : List (Ix xs), ys.map Subtype.val = bwd xs.length xs.length /\ J ys W') \/ (∃ pre, True /\ Jx pre W')) := by
 refine callsIn_of_wp Tryz.func202 rfl h7 ?_ hro;simp only [Tryz.ntmps202, List.size_toArray, List.length_cons, List.length_nil, Nat.reduceAdd, Nat.reduceSub, Array.replicate_succ, Array.replicate_zero, List.push_toArray, List.append_toArray, List.nil_append, List.cons_append];obtain ⟨m, hm⟩ : ∃ m, xs.length = m := ⟨_, rfl⟩;have HM := Lib.hid hm;have hm1 : xs.length <= m := by omega
 have hm2 : m <= xs.length := by omega
 rw [hm] at hBs;clear hm
 gi_wp2
 gi_loopw [3] (fun i wr => ∃ k : Nat, k <= m /\ i = .int .i64 ((m : Int) - 1 - (k : Int)) /\ (∃ pre : List (Ix xs), pre.map Subtype.val = bwd m k /\ J pre wr) /\ KeepAt n₀ Bs W wr)
  (fun i _ => (intOf i + 1).toNat)
 case atStart => exact ⟨0, Nat.zero_le _, by simp, ⟨[], rfl, h0⟩, KeepAt.refl _ _ _⟩
 case round =>
  obtain ⟨k, hk, rfl, ⟨pre, hpre, hJs⟩, hnx⟩ := hrel;by_cases hlt : k < m
  ·have hne : xs ≠ [] := List.ne_nil_of_length_pos (by omega)
   obtain ⟨b, off, rfl, hbl, hcell⟩ := hc hne;obtain ⟨i, hi⟩ : ∃ i, i = m - 1 - k := ⟨_, rfl⟩;have HI := Lib.hid hi;have hj : i < xs.length := by omega
   have hc1 := zcq hnx.1 hbl (hcell i hj);have hc0 := hnx.cell.trans hBs;obtain ⟨x, hx⟩ : ∃ x, x = xs[i] := ⟨_, rfl⟩;rw [<- hx] at hc1;have hxg : (xs[i]?).getD 0 = x := by rw [hx]; simp [hj]
   obtain ⟨fn, tmps, assign, body, hy, hR⟩ := hY pre ⟨i, hj⟩ wr hJs (by have := congrArg List.length hpre; rw [List.length_map, bwd_length] at this; omega);dsimp only [encBwd] at hy;rw [hxg] at hy;have e1 : (m : Int) - 1 - (k : Int) = (i : Int) := by omega
   rw [e1];have hsucc : (pre ++ [(⟨i, hj⟩ : Ix xs)]).map Subtype.val = bwd m (k + 1) := by rw [bwd_succ, <- hi, List.map_append, hpre]; rfl
   have HS := Lib.hid hsucc;clear hcell hc e1 hi hJs hx hsucc hxg hpre;have f1 : (0 : Int) <= (i : Int) := by omega
   have f2 : (i : Int) < (m : Int) := by have := HI.out; omega
   gi_wp2
   refine hR.mono ?_;rintro e W3 (⟨rfl, hJ3, hk3⟩ | ⟨rfl, hJx3⟩)
   ·gi_wp2
    go_roundw
    case rel => exact ⟨k + 1, by omega, congrArg (Value.int .i64) (by have := HI.out; omega), ⟨_, HS.out, hJ3⟩, hnx.trans hk3⟩
    case measure => simp [intOf]
   ·gi_wp2
    refine bodyPost_ret (results_none rfl _ _ _) rfl ?_;exact ⟨⟨_, rfl⟩, .inr ⟨_, trivial, hJx3⟩⟩
  ·obtain rfl : k = m := by omega
   gi_wp2
   go_end0;exact ⟨⟨_, rfl⟩, .inl ⟨_, by rw [hpre, HM.out], hJs⟩⟩
theorem bwd_stops (F : Fence) (n : Nat) (h7 : F.fn 202) (hro : F.round = none) (hn : 1 <= n) (Bs n₀ : Nat) (p : Option Addr) (c : Nat) (xs : List Nat) (hlen : xs.length <= 1000000) (w : World)
 (hBs : Bs < w.heap.size) (hn₀ : n₀ <= w.heap.size) (hc : w.cell? ⟨Bs, 0, none⟩ = some (.slice p xs.length c))
 (hr : xs ≠ [] -> ∃ b off, p = some ⟨b, off, none⟩ /\ b < n₀ /\ ∀ (i : Nat) (hi : i < xs.length), w.cell? ⟨b, off + i, none⟩ = some (.int .u64 ((xs[i] : Nat) : Int))) :
 SeqStopsK F n Tryz.prog 202 #[.pointer (some ⟨Bs, 0, none⟩)] (fun x : Ix xs => encBwd xs x.1) (KeepAt n₀ Bs) (fun ys => ys.map Subtype.val = bwd xs.length xs.length) (fun _ => True) xs.length w := fun l J Jx W hW _ _ hY h0' => by
 have hc' := zcq hW hBs hc;refine bwd_in F n h7 hro hn l Bs n₀ p c xs hlen J Jx hY W hc' (fun hne => ?_) h0';obtain ⟨b, off, hp, hbl, hcell⟩ := hr hne;refine ⟨b, off, hp, hbl, fun i hi => ?_⟩;rw [hW.cell (p := ⟨b, off + i, none⟩) (by show b < w.heap.size; omega)];exact hcell i hi
theorem backward_any (a : Option Addr) (len cap : Nat) (w : World) :
 Calls Tryz.prog 160 #[.slice a len cap] w fun e w' => e = .returned (.func (.func 202) #[] #[.pointer (some ⟨w.heap.size, 0, none⟩)]) /\ w.alloc (.cells #[.slice a len cap] 180) = w' := by
 go_enter Tryz.func160, Tryz.ntmps160;go_wp2;go_ret;exact ⟨rfl, rfl⟩
end Go.Proofs.YtgdpoankaojklaaGreatDoor
namespace Go.Proofs.YtgdpoankaojklaaGreatDoor
open Go.RowKit Go.Shelf Go.Lib
theorem countP_dec (p q : Nat -> Bool) (h : ∀ x, q x = true -> p x = true) (i : Nat) (hp : p i = true) (hq : q i = false) (l : List Nat) (hi : i ∈ l) : l.countP q < l.countP p := by
 induction l with
 | nil => cases hi
 | cons x l ih =>
   have hle : l.countP q <= l.countP p := List.countP_mono_left fun x _ => h x;simp only [List.countP_cons];rcases List.mem_cons.1 hi with rfl | hi
   ·rw [hp, hq]; simp; omega
   ·have := ih hi
    have h2 : (if q x = true then 1 else 0) <= (if p x = true then 1 else 0) := by
     split
     ·rename_i hx; rw [if_pos (h x hx)]; exact Nat.le_refl _
     ·exact Nat.zero_le _
    omega
section
variable {F : Fence} {n : Nat} {P : Program} {ops : Array Oper} {Q : Exit -> Act -> World -> Prop} {md : Region.Mode}
structure DrawnAt (md : Region.Mode) (ops : Array Oper) (vals : Nat -> Value -> Prop) (a0 : Act) (listed : Array Bool) (a : Act) : Prop where
 size : listed.size = ops.size
 closed : ∀ j oj, ops[j]? = some oj -> listed.getD j false = true -> ∀ e ∈ oj.after, Region.binds md e = true -> listed.getD e.on false = true
 has : ∀ j oj d, ops[j]? = some oj -> oj.dst = some d -> listed.getD j false = true -> vals j (a.eval (.tmp d))
 old : ∀ s, (∀ (j : Nat) (oj : Oper), ops[j]? = some oj -> oj.dst ≠ some s) -> a.eval (.tmp s) = a0.eval (.tmp s)
 tsize : a.tmps.size = a0.tmps.size
 defers : a.defers = a0.defers
theorem getD_set_true {listed : Array Bool} {i j : Nat} (h : (listed.setIfInBounds i true).getD j false = true) : j = i \/ listed.getD j false = true := by
 by_cases hij : j = i
 ·exact .inl hij
 ·refine .inr ?_
  rw [Array.getD_eq_getD_getElem?, Array.getElem?_setIfInBounds_ne (by omega)] at h;rw [Array.getD_eq_getD_getElem?]; exact h
theorem getD_set_mono {listed : Array Bool} {i j : Nat} (h : listed.getD j false = true) : (listed.setIfInBounds i true).getD j false = true := by
 rw [Array.getD_eq_getD_getElem?] at *;by_cases hij : i = j
 ·subst hij
  rw [Array.getElem?_setIfInBounds_self];split
  ·rfl
  ·rename_i hh; rw [Array.getElem?_eq_none (by omega)] at h; simp at h
 ·rw [Array.getElem?_setIfInBounds_ne hij]; exact h
theorem eval_put_self {a : Act} {d : Tmp} {v : Value} (h : d < a.tmps.size) : (a.put (some d) v).eval (.tmp d) = v := by
 simp [Act.put, Act.eval, Array.getD_eq_getD_getElem?, h]
theorem eval_put_other {a : Act} {d s : Tmp} {v : Value} (h : d ≠ s) : (a.put (some d) v).eval (.tmp s) = a.eval (.tmp s) := by
 simp [Act.put, Act.eval, Array.getD_eq_getD_getElem?, Array.getElem?_setIfInBounds_ne h]
theorem put_tsize {a : Act} {d : Option Tmp} {v : Value} : (a.put d v).tmps.size = a.tmps.size := by cases d <;> simp [Act.put]
theorem put_defers {a : Act} {d : Option Tmp} {v : Value} : (a.put d v).defers = a.defers := by cases d <;> simp [Act.put]
def tidyB (ops : Array Oper) (m : Nat) : Bool :=
 ((List.range ops.size).all fun i => (match ops[i]? with | some o => o.after.all (fun e => decide (e.on < i)) && (match o.dst with | some d => decide (d < m) | none => true) | none => true)) &&
 ((List.range ops.size).all fun i => (List.range ops.size).all fun j => decide (i = j) || (match (ops[i]?).bind (·.dst), (ops[j]?).bind (·.dst) with | some d, some d' => decide (d ≠ d') | _, _ => true))
theorem tidy_edge {m : Nat} (h : tidyB ops m = true) {i : Nat} {o : Oper} (ho : ops[i]? = some o) : ∀ e ∈ o.after, e.on < i := by
 simp only [tidyB, Bool.and_eq_true, List.all_eq_true, List.mem_range] at h;have h1 := h.1 i (Array.getElem?_eq_some_iff.1 ho).1;rw [ho] at h1;simp only [Bool.and_eq_true, Array.all_eq_true_iff_forall_mem, decide_eq_true_eq] at h1;exact h1.1
theorem tidy_dst {m : Nat} (h : tidyB ops m = true) {i : Nat} {o : Oper} {d : Tmp} (ho : ops[i]? = some o) (hd : o.dst = some d) : d < m := by
 simp only [tidyB, Bool.and_eq_true, List.all_eq_true, List.mem_range] at h;have h1 := h.1 i (Array.getElem?_eq_some_iff.1 ho).1;rw [ho] at h1;simp only [Bool.and_eq_true, hd, decide_eq_true_eq] at h1;exact h1.2
theorem tidy_apart {m : Nat} (h : tidyB ops m = true) {i j : Nat} {o o' : Oper} {d d' : Tmp} (ho : ops[i]? = some o) (ho' : ops[j]? = some o') (hd : o.dst = some d) (hd' : o'.dst = some d') (hij : i ≠ j) : d ≠ d' := by
 simp only [tidyB, Bool.and_eq_true, List.all_eq_true, List.mem_range] at h;have h1 := h.2 i (Array.getElem?_eq_some_iff.1 ho).1 j (Array.getElem?_eq_some_iff.1 ho').1;rw [ho, ho'] at h1;simp only [Option.bind_some, hd, hd', Bool.or_eq_true, decide_eq_true_eq] at h1;exact h1.resolve_left hij
theorem DrawnAt.step {vals : Nat -> Value -> Prop} {a0 : Act} {listed : Array Bool} {a : Act} (ht : tidyB ops a0.tmps.size = true) (h : DrawnAt md ops vals a0 listed a) {i : Nat} {o : Oper} (ho : ops[i]? = some o)
 (hi : ∀ e ∈ o.after, Region.binds md e = true -> listed.getD e.on false = true) {v : Value} (hv : vals i v) : DrawnAt md ops vals a0 (listed.setIfInBounds i true) (a.put o.dst v) := by
 refine ⟨by simp [h.size], ?_, ?_, ?_, by rw [put_tsize, h.tsize], by rw [put_defers, h.defers]⟩
 ·intro j oj hj hl e he hb
  rcases getD_set_true hl with rfl | hl
  ·rw [ho] at hj; cases hj; exact getD_set_mono (hi e he hb)
  ·exact getD_set_mono (h.closed j oj hj hl e he hb)
 ·intro j oj d hj hd hl
  by_cases hij : i = j
  ·subst hij
   rw [ho] at hj; cases hj;rw [hd];rw [eval_put_self (by rw [h.tsize]; exact tidy_dst ht ho hd)]; exact hv
  ·rcases getD_set_true hl with rfl | hl
   ·exact absurd rfl hij
   ·cases hdo : o.dst with
    | none => exact h.has j oj d hj hd hl
    | some d' => rw [eval_put_other (tidy_apart ht ho hj hdo hd hij)]; exact h.has j oj d hj hd hl
 ·intro s hs
  cases hdo : o.dst with
  | none => exact h.old s hs
  | some d' => rw [eval_put_other (fun e => hs i o ho (by rw [hdo, e]))]; exact h.old s hs
theorem wpAnyIn_drawn {vals : Nat -> Value -> Prop} {a0 : Act} (C : Array Bool -> World -> Prop) (ht : tidyB ops a0.tmps.size = true)
 (hstep : ∀ listed a w i o, ops[i]? = some o -> listed.getD i true = false -> (∀ e ∈ o.after, Region.binds md e = true -> listed.getD e.on false = true) -> DrawnAt md ops vals a0 listed a -> C listed w ->
   Region.wanted o (yielded ops a.tmps) = true /\ o.wpIn F n P a w (fun a' w' => ∃ v, vals i v /\ a' = a.put o.dst v /\ C (listed.setIfInBounds i true) w') Q)
 (hend : ∀ listed a w, (∀ i, i < ops.size -> listed.getD i false = true) -> DrawnAt md ops vals a0 listed a -> C listed w -> Q .normal a w) :
 ∀ fuel listed a w, (List.range ops.size).countP (fun i => !(listed.getD i false)) <= fuel -> DrawnAt md ops vals a0 listed a -> C listed w -> wpAnyIn F n P md ops Q fuel listed a w := by
 have hall : ∀ listed a, DrawnAt md ops vals a0 listed a -> Region.ready md ops listed = [] -> ∀ i, i < ops.size -> listed.getD i false = true := by
  intro listed a hD hr i hi
  induction i using Nat.strongRecOn with
  | _ i ih =>
    cases hc : listed.getD i false with
    | true => rfl
    | false =>
      have hmem : i ∈ Region.ready md ops listed := by
       refine mem_ready.2 ⟨?_, ops[i], by simp [hi], ?_⟩
       ·rw [Array.getD_eq_getD_getElem?] at *
        have : i < listed.size := by rw [hD.size]; exact hi
        rw [Array.getElem?_eq_getElem this] at *;exact hc
       ·intro e he _
        have hlt := tidy_edge ht (i := i) (o := ops[i]) (by simp [hi]) e he;exact ih e.on hlt (by omega)
      rw [hr] at hmem;cases hmem
 intro fuel
 induction fuel with
 | zero =>
   intro listed a w hc hD hC;have hcl : ∀ i, i < ops.size -> listed.getD i false = true := by
    intro i hi;have h0 : (List.range ops.size).countP (fun i => !(listed.getD i false)) = 0 := by omega
    have := List.countP_eq_zero.1 h0 i (List.mem_range.2 hi);simpa using this
   refine ⟨?_, hend _ _ _ hcl hD hC⟩;apply List.eq_nil_iff_forall_not_mem.2;intro i hi;obtain ⟨h1, o, ho, _⟩ := mem_ready.1 hi;have h2 := hcl i (Array.getElem?_eq_some_iff.1 ho).1;have hs : i < listed.size := by rw [hD.size]; exact (Array.getElem?_eq_some_iff.1 ho).1
   rw [Array.getD_eq_getD_getElem?, Array.getElem?_eq_getElem hs] at h1 h2;simp only [Option.getD_some] at h1 h2;rw [h1] at h2; cases h2
 | succ fuel ih =>
   intro listed a w hc hD hC;refine ⟨fun hr => hend _ _ _ (hall _ _ hD hr) hD hC, fun i hi => ?_⟩;obtain ⟨h1, o, ho, hdep⟩ := mem_ready.1 hi;obtain ⟨hw, hs⟩ := hstep listed a w i o ho h1 hdep hD hC;unfold wpOpIn;simp only [ho, hw, if_true];refine Oper.wpIn_mono ?_ hs;rintro a' w' ⟨v, hv, rfl, hC'⟩;refine ih _ _ _ ?_ (hD.step ht ho hdep hv) hC';have hlt : i < ops.size := (Array.getElem?_eq_some_iff.1 ho).1;have hls : i < listed.size := by rw [hD.size]; exact hlt
   have := countP_dec (fun j => !(listed.getD j false)) (fun j => !((listed.setIfInBounds i true).getD j false)) (fun x hx => by
    simp only [Bool.not_eq_true'] at *;cases hb : listed.getD x false with
    | false => rfl
    | true => rw [getD_set_mono hb] at hx; cases hx) i (by
      rw [Array.getD_eq_getD_getElem?, Array.getElem?_eq_getElem hls] at *;simp only [Option.getD_some] at *;simp [h1]) (by simp [Array.getD_eq_getD_getElem?, hls]) (List.range ops.size) (List.mem_range.2 hlt)
   omega
theorem getD_ne (listed : Array Bool) (i j : Nat) (h : i ≠ j) : (listed.setIfInBounds i true).getD j false = listed.getD j false := by
 rw [Array.getD_eq_getD_getElem?, Array.getD_eq_getD_getElem?, Array.getElem?_setIfInBounds_ne h]
theorem getD_false {listed : Array Bool} {i : Nat} (h : listed.getD i true = false) : listed.getD i false = false := by
 rw [Array.getD_eq_getD_getElem?] at *;cases hc : listed[i]? with
 | none => rfl
 | some b => rw [hc] at h; exact h
theorem getD_now {listed : Array Bool} {i : Nat} (h : listed.getD i true = false) : (listed.setIfInBounds i true).getD i false = true := by
 rw [Array.getD_eq_getD_getElem?] at *;rw [Array.getElem?_setIfInBounds_self];by_cases hl : i < listed.size
 ·simp [hl]
 ·rw [Array.getElem?_eq_none (by omega)] at h; simp at h
theorem wpIn_region_drawn {id : Nat} {l : List Oper} {a : Act} {w : World} (vals : Nat -> Value -> Prop) (C : Array Bool -> World -> Prop) (hm : P.follows .mixedOrders = true) (ht : tidyB l.toArray a.tmps.size = true)
 (h0 : C (Array.replicate l.toArray.size false) w.drew)
 (hstep : ∀ listed a' w' i o, l.toArray[i]? = some o -> listed.getD i true = false -> (∀ e ∈ o.after, Region.binds .any e = true -> listed.getD e.on false = true) -> DrawnAt .any l.toArray vals a listed a' -> C listed w' ->
   Region.wanted o (yielded l.toArray a'.tmps) = true /\ o.wpIn F n P a' w' (fun a'' w'' => ∃ v, vals i v /\ a'' = a'.put o.dst v /\ C (listed.setIfInBounds i true) w'') Q)
 (hend : ∀ listed a' w', (∀ i, i < l.toArray.size -> listed.getD i false = true) -> DrawnAt .any l.toArray vals a listed a' -> C listed w' -> Q .normal a' w') :
 (Code.region id l.toArray true).wpIn F n P Q a w := by
 refine wpIn_region_any hm (wpAnyIn_drawn (vals := vals) (a0 := a) C ht hstep hend _ _ _ _ ?_ ⟨by simp, ?_, ?_, fun _ _ => rfl, rfl, rfl⟩ h0)
 ·exact Nat.le_trans (List.countP_le_length) (by simp)
 ·intro j oj _ hl; simp [Array.getD_eq_getD_getElem?] at hl
  rcases Nat.lt_or_ge j l.length with h | h <;> simp_all
 ·intro j oj d _ _ hl; simp [Array.getD_eq_getD_getElem?] at hl
  rcases Nat.lt_or_ge j l.length with h | h <;> simp_all
theorem wpIn_value {o : Oper} {a : Act} {w w' : World} {K : Act -> World -> Prop} {v : Value} (hc : ∀ c, o.op ≠ .call c) (hd : ∀ c, o.op ≠ .defer c) (hr : (execOp a.eval o).run P w = .ok (.value v) w') (hK : K (a.put o.dst v) w') : o.wpIn F n P a w K Q := by
 refine ⟨fun f hf => ?_, ?_⟩
 ·unfold Oper.about at hf
  split at hf
  ·rename_i c h; exact absurd h (hc c)
  ·cases hf
 ·rw [Oper.semAt_eq _ _ _ hd, hr]; exact hK
theorem wpIn_skip' {o : Oper} {a : Act} {w w' : World} {K : Act -> World -> Prop} (hc : ∀ c, o.op ≠ .call c) (hd : ∀ c, o.op ≠ .defer c) (hr : (execOp a.eval o).run P w = .ok .skip w') (hK : K (a.put o.dst undef) w') : o.wpIn F n P a w K Q := by
 refine ⟨fun f hf => ?_, ?_⟩
 ·unfold Oper.about at hf
  split at hf
  ·rename_i c h; exact absurd h (hc c)
  ·cases hf
 ·rw [Oper.semAt_eq _ _ _ hd, hr]; exact hK
theorem wpIn_enter {o : Oper} {a : Act} {w : World} {K : Act -> World -> Prop} {f : FuncId} {args : Array Value} (hd : ∀ c, o.op ≠ .defer c) (hr : (execOp a.eval o).run P w = .ok (.enter f args) w)
 (hK : Calls P f args w fun e w' => ∃ v, e = .returned v /\ K (a.put o.dst v) w') : o.wpIn Fence.wide n P a w K Q := by
 refine ⟨fun f hf => trivial, ?_⟩;rw [Oper.semAt_eq _ _ _ hd, hr];refine ⟨(by intro h; cases h), ?_⟩;refine CallsIn.mono (callsIn_wide.2 hK) ?_;rintro e w' ⟨v, rfl, h⟩;exact h
end
end Go.Proofs.YtgdpoankaojklaaGreatDoor
namespace Go.Proofs.YtgdpoankaojklaaGreatDoor
open Go.RowKit Go.Shelf Go.Lib
attribute [local go_sem] Oper.semAt_some
def piece (xs : List Nat) (i : Nat) : List UInt8 := if i < xs.length - 1 then pad 9 ((xs[i]?.getD 0)) else decDigits ((xs[i]?.getD 0))
def pieces (xs : List Nat) (pre : List Nat) : List UInt8 := (pre.map (piece xs)).flatten
theorem pieces_snoc (xs pre : List Nat) (i : Nat) : pieces xs (pre ++ [i]) = pieces xs pre ++ piece xs i := by simp [pieces]
theorem pieces_nil (xs : List Nat) : pieces xs [] = [] := rfl
theorem getD_lt9 {xs : List Nat} (h : ∀ x ∈ xs, x < B9) (i : Nat) : (xs[i]?.getD 0) < B9 := by
 rcases Nat.lt_or_ge i xs.length with hi | hi
 ·simp [hi]; exact h _ (List.getElem_mem hi)
 ·simp [hi]; decide
theorem dec_len9 {x : Nat} (h : x < B9) : (decDigits x).length <= 9 := (len_decDigits_le x 9 (by decide)).2 h
theorem piece_len {xs : List Nat} (h : ∀ x ∈ xs, x < B9) (i : Nat) : (piece xs i).length <= 9 := by
 unfold piece;split
 ·rw [pad_length 9 _ (by decide) (getD_lt9 h i)]; exact Nat.le_refl _
 ·exact dec_len9 (getD_lt9 h i)
theorem pieces_len {xs : List Nat} (h : ∀ x ∈ xs, x < B9) (pre : List Nat) : (pieces xs pre).length <= 9 * pre.length := by
 induction pre with
 | nil => simp [pieces]
 | cons i pre ih =>
   have := piece_len h i;simp only [pieces, List.map_cons, List.flatten_cons, List.length_append, List.length_cons] at *;omega
theorem pieces_all {n k : Nat} (_hn : 0 < n) (hk : 1 <= k) (hkl : k <= (lm B9 n).length) :
 pieces (lm B9 n) (bwd (lm B9 n).length k) = decDigits (lval B9 ((lm B9 n).drop ((lm B9 n).length - k))) /\ 0 < lval B9 ((lm B9 n).drop ((lm B9 n).length - k)) := by
 have hlt := lm_lt B9 n two_le_B9;have hlast := lm_last B9 n two_le_B9;generalize lm B9 n = l at *
 induction k with
 | zero => omega
 | succ k ih =>
   rw [bwd_succ, pieces_snoc];have hi : l.length - 1 - k < l.length := by omega
   have hd : l.drop (l.length - (k + 1)) = l[l.length - 1 - k] :: l.drop (l.length - k) := by
    rw [show l.length - (k + 1) = l.length - 1 - k by omega, List.drop_eq_getElem_cons hi];congr 2;omega
   have hg : (l[l.length - 1 - k]?.getD 0) = l[l.length - 1 - k] := by simp [hi]
   rw [hd];simp only [lval];rcases Nat.eq_zero_or_pos k with rfl | hk0
   ·have h1 : l.drop (l.length - 0) = [] := by simp
    have h0 : l[l.length - 1 - 0] ≠ 0 := by
     intro e;apply hlast (l.take (l.length - 1));have := List.take_succ_eq_append_getElem (l := l) (i := l.length - 1) (by omega);rw [show l.length - 1 + 1 = l.length by omega, List.take_length] at this;rw [this];congr 2
     ·simp; omega
    rw [h1];simp only [lval, Nat.mul_zero, Nat.add_zero];refine ⟨?_, by omega⟩;unfold piece;rw [if_neg (by omega), hg];simp [bwd, pieces]
   ·obtain ⟨e, hp⟩ := ih (by omega) (by omega)
    refine ⟨?_, by have : 0 < B9 * lval B9 (l.drop (l.length - k)) := Nat.mul_pos (by decide) hp; omega⟩;rw [e];unfold piece;rw [if_pos (by omega), hg, Nat.add_comm (l[l.length - 1 - k]), Nat.mul_comm B9];exact (decDigits_shift _ 9 _ hp (by decide) (hlt _ (List.getElem_mem hi))).symm
theorem piece_lt {xs : List Nat} {i : Nat} (h : i < xs.length - 1) : piece xs i = List.replicate (9 - (decDigits (xs[i]?.getD 0)).length) 48 ++ decDigits (xs[i]?.getD 0) := by
 unfold piece; rw [if_pos h]; rfl
theorem piece_ge {xs : List Nat} {i : Nat} (h : ¬ i < xs.length - 1) : piece xs i = decDigits (xs[i]?.getD 0) := by
 unfold piece; rw [if_neg h]
theorem zeros_extract {l : List UInt8} (h : l.length <= 9) : ({ data := #[48, 48, 48, 48, 48, 48, 48, 48, 48] } : ByteArray).extract (BS l).size 9 = BS (List.replicate (9 - l.length) 48) := by
 apply ba_ext;rw [Lib.extract_data, BS_list, BS_size];generalize l.length = k at *
 match k, h with
 | 0, _ | 1, _ | 2, _ | 3, _ | 4, _ | 5, _ | 6, _ | 7, _ | 8, _ | 9, _ => rfl
theorem strCells_BS (l : List UInt8) : Lib.strCells (BS l) = Lib.byteCells l := by
 simp [Lib.strCells, Lib.byteCells, BS]
theorem byteCells_len (l : List UInt8) : (Lib.byteCells l).length = l.length := by simp [Lib.byteCells]
theorem builder_own {T e B b : Nat} {bs : List Value} {W W' : World} {row : Option Nat} (h : Lib.IsBuilderF T e B b bs W) (hg : W.grownBy W' row)
 (hr : ∀ r, row = some r -> ∃ o : Obj, W.heap[r]? = some o /\ o.isCells = false) : Lib.IsBuilderF T e B b bs W' := by
 have key : ∀ p, Lib.BuilderAtF T e B b p bs W -> Lib.BuilderAtF T e B b p bs W' := by
  intro p ⟨hB, v, hb, hown, hne⟩;refine ⟨hB, v, (grownBy_keeps_cells hg hr hb rfl).trans hb, hown.kept hg ?_, hne⟩;cases hv : v.ownBlock with
  | none => exact .inl rfl
  | some g =>
    refine .inr ?_;intro e2;obtain ⟨o, ho, hc⟩ := hr g e2.symm;rcases hown.2 with ⟨rfl, _⟩ | ⟨g', cap, cur, fz, rfl, _, hgg, _⟩
    ·simp [Value.ownBlock] at hv
    ·simp [Value.ownBlock] at hv
     subst hv;rw [hgg] at ho;cases ho;cases hc
 exact h.imp (key _) (key _)
theorem close_zero (w : World) (v : Value) (m : Bool) (hrd : Rd .u64 w v []) :
 Calls Tryz.prog 119 #[.agg #[.bool m, v]] w (Ret (fun r _ => r = .string (IS 0)) w) := by
 obtain ⟨p, c, rfl, hc, hm, hr⟩ := hrd.open;clear hr hrd;have HE : Hid (Value.string (⟨#[48]⟩ : ByteArray) = .string (IS 0)) := congrArg Value.string IS_zero.symm;go_enter Tryz.func119, Tryz.ntmps119;go_wp2;go_ret;exact ⟨_, rfl, HE.out, (Below.refl _ _).alloc (Nat.le_refl _) _⟩
theorem isB_below {T e B b : Nat} {bs : List Value} {W W' : World} (h : Lib.IsBuilderF T e B b bs W) (hb : Below W.heap.size W W') : Lib.IsBuilderF T e B b bs W' := by
 have key : ∀ p, Lib.BuilderAtF T e B b p bs W -> Lib.BuilderAtF T e B b p bs W' := by
  intro p ⟨hB, v, hbk, hown, hne⟩;have hlt : b < W.heap.size := (Array.getElem?_eq_some_iff.1 hbk).1;refine ⟨hB, v, (hb.block b hlt).trans hbk, ?_, hne⟩;exact hown.kept (row := none) ⟨hb.os, hb.tape, hb.output, hb.size, fun k hk _ => hb.block k hk⟩ (by cases v.ownBlock <;> simp)
 exact h.imp (key _) (key _)
theorem keepsOthers_below {W W' : World} (hb : Below W.heap.size W W') : KeepsOthers W W' :=
 ⟨hb.size, fun k _ hk _ => (hb.block k (Array.getElem?_eq_some_iff.1 hk).1).trans hk⟩
theorem keepsOthers_built {B b : Nat} {bs : List Value} {W W' : World} (h : BuiltTo B b bs W W') (hbc : ∀ o, W.heap[b]? = some o -> o.isCells = true) : KeepsOthers W W' :=
 ⟨h.2.1.size, fun k o hk ho => by
  refine h.2.2 k o hk (fun e => ?_) (fun c fz e => ?_)
  ·cases e
   rw [hbc o hk] at ho; cases ho
  ·subst e; cases ho⟩
theorem isB_cells {T e B b : Nat} {bs : List Value} {W : World} (h : Lib.IsBuilderF T e B b bs W) : ∀ o, W.heap[b]? = some o -> o.isCells = true := by
 intro o ho;rcases h with ⟨_, v, hb, _⟩ | ⟨_, v, hb, _⟩ <;> (rw [hb] at ho; cases ho; rfl)
def signL (m : Bool) : List UInt8 := if m then [45] else []
theorem close_in (n : Nat) (hn : 6 <= n) (w : World) (v : Value) (m : Bool) (k : Nat) (hk : 0 < k) (hrd : Rd .u64 w v (lm B9 k)) (hlen : (lm B9 k).length <= 1000000) (hg : Good w) :
 CallsIn Fence.wide n Tryz.prog 119 #[.agg #[.bool m, v]] w (Ret (fun r _ => r = .string (BS (signL m ++ decDigits k))) w) := by
 have h1 : 1 <= n := by omega
 have hne := lm_ne_nil B9 k two_le_B9 hk;have hall := pieces_all hk (Nat.pos_of_ne_zero (by simpa using hne)) (Nat.le_refl (lm B9 k).length);have hlt := lm_lt B9 k two_le_B9;rw [Nat.sub_self, List.drop_zero, lval_lm B9 k two_le_B9] at hall;obtain ⟨hall, _⟩ := hall;have hrd' := hrd;obtain ⟨p, c, rfl, hc, hm, hr⟩ := hrd.open;generalize lm B9 k = xs at *;have HALL := Lib.hid hall;have HLT := Lib.hid hlt;have HRD := Lib.hid hrd';have HR := Lib.hid hr;clear hrd hrd' hall hlt hr;have hpos : 0 < xs.length := List.length_pos_iff.2 hne;have hpos2 : ((xs.length : Int) == 0) = false := by simp; omega
 refine callsIn_of_wp_marks Tryz.func119 rfl trivial ?_ rfl;simp only [Tryz.ntmps119, List.size_toArray, List.length_cons, List.length_nil, Nat.reduceAdd, Nat.reduceSub, Array.replicate_succ, Array.replicate_zero, List.push_toArray, List.append_toArray, List.nil_append, List.cons_append];obtain ⟨W2, hW2⟩ : ∃ W2, W2 = (w.alloc (.cells #[.bool m, .slice p xs.length c] 182)).alloc (.cells #[.pointer none, .slice none 0 0] 225) := ⟨_, rfl⟩;have hsz : W2.heap.size = w.heap.size + 2 := by rw [hW2]; simp
 have hB2 : Below w.heap.size w W2 := by rw [hW2]; exact zal2 _ _ _
 have hfr : Lib.IsBuilderF 225 5 (w.heap.size + 1) (w.heap.size + 1) [] W2 := by
  rw [hW2];have := Lib.IsBuilderF.of (Lib.fresh_isBuilder 225 5 (w.alloc (.cells #[.bool m, .slice p xs.length c] 182)));simpa using this
 have hnum : W2.cell? ⟨w.heap.size, 1, none⟩ = some (.slice p xs.length c) := by
  rw [hW2, World.cell?_alloc_past _ _ _ (by simp), World.cell?_alloc_at _ _ _ _ rfl]; rfl
 have HW := Lib.hid hW2;have HFR := Lib.hid hfr;have HB2 := Lib.hid hB2;clear hfr;cases m
 case false =>
  gi_wp2_with fail;rw [<- hW2];clear hW2;obtain ⟨W1, hW1⟩ : ∃ W1, W1 = W2 := ⟨_, rfl⟩;have hbu : Lib.IsBuilderF 225 5 (w.heap.size + 1) (w.heap.size + 1) (Lib.byteCells (signL false)) W1 := by rw [hW1]; exact HFR.out
  have hbw : Below (w.heap.size + 1) W2 W1 := by rw [hW1]; exact Below.refl _ _
  rw [<- hW1];clear hW1;refine ⟨trivial, ?_⟩;refine CallsIn.mono (callsIn_wide.2 (backward_any _ _ _ _)) ?_;rintro e w3 ⟨rfl, rfl⟩;gi_wp2_with fail;have hsz1 : W2.heap.size <= W1.heap.size := hbw.size;have hb0 : Below (w.heap.size + 1) W2 (W1.alloc (.cells #[.slice p xs.length c] 180)) := hbw.alloc (by omega) _;have hbW : Below w.heap.size w (W1.alloc (.cells #[.slice p xs.length c] 180)) := HB2.out.trans (hb0.mono (by omega));have hr2 : xs ≠ [] -> ∃ b off, p = some ⟨b, off, none⟩ /\ b < w.heap.size + 1 /\ ∀ (i : Nat) (hi : i < xs.length), (W1.alloc (.cells #[.slice p xs.length c] 180)).cell? ⟨b, off + i, none⟩ = some (.int .u64 ((xs[i] : Nat) : Int)) := fun hne => by
   obtain ⟨b, off, hp, hbl, hcell⟩ := HR.out hne;exact ⟨b, off, hp, by omega, fun i hi => (zcq hbW hbl (hcell i hi) :)⟩
  refine wpIn_rangeFunc_ownF rfl h1 (gf := 202) (lb := #[.pointer (some ⟨W1.heap.size, 0, none⟩)]) rfl trivial (enters_of Tryz.func202 (by kernel_rfl) rfl)
   (bwd_stops Fence.wide (n - 1) trivial rfl (by omega) W1.heap.size (w.heap.size + 1) _ c xs hlen _ (by simp) (by simp; omega) (World.cell?_alloc_at _ _ _ _ rfl) hr2) (fun h k => KeepAt.trans h k) (keepAt_b (by simp; omega) (by simp)) (Below.refl _ _) (fun _ => rfl)
   (fun (pre : List (Ix xs)) W => Lib.IsBuilderF 225 5 (w.heap.size + 1) (w.heap.size + 1) (Lib.byteCells (signL false ++ pieces xs (pre.map Subtype.val))) W /\ Below (w.heap.size + 1) W2 W /\ W1.heap.size < W.heap.size /\ W.heap[W1.heap.size]? = some (.cells #[.slice p xs.length c] 180))
   (fun _ _ _ => False)
   (fun s A B row hs hg' hr => ⟨builder_own hs.1 hg' (fun r e => (hr r e).2), hs.2.1.grown hg' (by have := hs.2.1.size; omega) (fun r e => by have := (hr r e).1; simp at this; omega), by have := hg'.size; omega, (grownBy_keeps_cells hg' (fun r e => (hr r e).2) hs.2.2.2 rfl).trans hs.2.2.2⟩)
   (fun _ _ _ _ _ hs _ _ => hs)
   ⟨by simpa [pieces_nil] using Lib.IsBuilderF.alloc hbu _, hb0, by simp, heap_alloc_new _ _⟩
   (fun ix => { tmps := #[.agg #[.bool false, .slice p xs.length c], .pointer (some ⟨w.heap.size, 0, none⟩), .string ⟨#[]⟩, .pointer (some ⟨w.heap.size + 1, 0, none⟩), .int .i64 (ix.1 : Int), .int .u64 (((xs[ix.1]?.getD 0) : Nat) : Int), undef, .pointer (some ⟨w.heap.size, 1, none⟩), .slice p xs.length c, .int .i64 (xs.length : Int), .bool false, .pointer (some ⟨w.heap.size, 0, none⟩), .bool false, undef, .pointer (some ⟨w.heap.size, 1, none⟩), .slice p xs.length c, .func (.func 202) #[] #[.pointer (some ⟨W1.heap.size, 0, none⟩)], .int .i64 (ix.1 : Int), .int .u64 (((xs[ix.1]?.getD 0) : Nat) : Int), undef, undef, undef, undef, undef, undef, undef, undef, undef, undef, undef, undef, undef, undef, undef], defers := [] }) ?_ ?_ ?_ ?_
  ·intro l x W K hK
   dsimp only [encBwd]
   gi_wp2
   exact hK
  ·rintro l pre ix W ⟨hI, hB, hlt1, hbox⟩ hpl
   generalize hi0 : ix.1 = i;have HI0 := Lib.hid hi0;clear hi0;have hgW : Good W := hg.below (HB2.out.trans (hB.mono (by omega)));have hx9 := getD_lt9 HLT.out i;have hpl9 := pieces_len HLT.out (pre.map Subtype.val);rw [List.length_map] at hpl9;have hnumW := zcq hB (by simp) hnum;gi_wp2_with fail;refine ⟨trivial, by intro; omega, ?_⟩;refine CallsIn.mono (CallsIn.inRound l (callsIn_wide.2 (formatUint_any (xs[i]?.getD 0) _ rfl (Nat.lt_of_lt_of_le hx9 (by decide)) W hgW))) ?_;rintro e W3 ⟨_, rfl, rfl, hb3⟩;have hnum3 := zcq hb3 (by show w.heap.size < W.heap.size; omega) hnumW;have hI3 := isB_below hI hb3;have hB3 : Below (w.heap.size + 1) W2 W3 := hB.trans (hb3.mono (by omega));have hko3 : KeepsOthers W W3 := keepsOthers_below hb3;have hsz3 := hb3.size;have hbox3 : W3.heap[W1.heap.size]? = some (.cells #[.slice p xs.length c] 180) := (hb3.block _ hlt1).trans hbox;have hKA3 : KeepAt (w.heap.size + 1) W1.heap.size W W3 := ⟨hb3.mono (by omega), hbox3.trans hbox.symm⟩;have hdl := dec_len9 hx9;have hbs : (BS (decDigits (xs[i]?.getD 0))).size <= 9 := by rw [BS_size]; exact hdl
   have hplen : (signL false ++ pieces xs (pre.map Subtype.val)).length + 18 <= 1000000000 := by
    have : (signL false).length <= 1 := by decide
    simp only [List.length_append]; omega
   clear hb3 hnumW hbox hB hI hgW;by_cases hi : i < xs.length - 1
   ·have hi1 : (i : Int) < (xs.length : Int) - 1 := by omega
    have hpz := piece_lt hi;have hzz := zeros_extract (l := decDigits (xs[i]?.getD 0)) hdl;gi_wp2_with fail;refine ⟨trivial, by intro; omega, ?_⟩;refine CallsIn.mono (CallsIn.inRound l (callsIn_wide.2 (writeString_any (w.heap.size + 1) (w.heap.size + 1) _ _ W3 hI3 (by rw [byteCells_len, BS_size, List.length_replicate]; omega) (by omega)))) ?_;rintro e W4 ⟨rfl, hb4⟩;have hko4 := keepsOthers_built hb4 (isB_cells hI3);have hsz4 := hb4.2.1.size;have hbox4 : W4.heap[W1.heap.size]? = some (.cells #[.slice p xs.length c] 180) := hb4.2.2 _ _ hbox3 (by simp; omega) (by simp);have hI4 : Lib.IsBuilderF 225 5 (w.heap.size + 1) (w.heap.size + 1) _ W4 := Or.inr hb4.1;gi_wp2_with fail;refine ⟨trivial, by intro; omega, ?_⟩;refine CallsIn.mono (CallsIn.inRound l (callsIn_wide.2 (writeString_any (w.heap.size + 1) (w.heap.size + 1) _ _ W4 hI4 (by simp only [List.length_append, byteCells_len, strCells_BS, List.length_replicate]; simp only [List.length_append] at hplen; rw [BS_size]; omega) (by omega)))) ?_;rintro e W5 ⟨rfl, hb5⟩;have hko5 := keepsOthers_built hb5 (isB_cells hI4);have hsz5 := hb5.2.1.size;have hbox5 : W5.heap[W1.heap.size]? = some (.cells #[.slice p xs.length c] 180) := hb5.2.2 _ _ hbox4 (by simp; omega) (by simp);gi_wp2_with fail;have hfin : Lib.IsBuilderF 225 5 (w.heap.size + 1) (w.heap.size + 1) (Lib.byteCells (signL false ++ pieces xs ((pre ++ [ix]).map Subtype.val))) W5 := by
     refine Or.inr ?_;rw [List.map_append, List.map_cons, List.map_nil, HI0.out, pieces_snoc, hpz];simpa [strCells_BS, Lib.byteCells] using hb5.1
    exact ⟨(hko3.trans hko4).trans hko5, ⟨(hKA3.1.trans hb4.2.1).trans hb5.2.1, hbox5.trans (hbox3.symm.trans hKA3.2)⟩, hfin, (hB3.trans hb4.2.1).trans hb5.2.1, by omega, hbox5⟩
   ·have hi1 : ¬ (i : Int) < (xs.length : Int) - 1 := by omega
    have hpz := piece_ge hi;gi_wp2_with fail;refine ⟨trivial, by intro; omega, ?_⟩;refine CallsIn.mono (CallsIn.inRound l (callsIn_wide.2 (writeString_any (w.heap.size + 1) (w.heap.size + 1) _ _ W3 hI3 (by rw [byteCells_len]; omega) (by omega)))) ?_;rintro e W5 ⟨rfl, hb5⟩;have hko5 := keepsOthers_built hb5 (isB_cells hI3);have hsz5 := hb5.2.1.size;have hbox5 : W5.heap[W1.heap.size]? = some (.cells #[.slice p xs.length c] 180) := hb5.2.2 _ _ hbox3 (by simp; omega) (by simp);gi_wp2_with fail;have hfin : Lib.IsBuilderF 225 5 (w.heap.size + 1) (w.heap.size + 1) (Lib.byteCells (signL false ++ pieces xs ((pre ++ [ix]).map Subtype.val))) W5 := by
     refine Or.inr ?_;rw [List.map_append, List.map_cons, List.map_nil, HI0.out, pieces_snoc, hpz];simpa [strCells_BS, Lib.byteCells] using hb5.1
    exact ⟨hko3.trans hko5, ⟨hKA3.1.trans hb5.2.1, hbox5.trans (hbox3.symm.trans hKA3.2)⟩, hfin, hB3.trans hb5.2.1, by omega, hbox5⟩
  ·rintro D ys W hD hys ⟨hI, hB, hlt1, hbox⟩ hK
   rw [hys] at hI;clear hys;have hne2 : signL false ++ pieces xs (bwd xs.length xs.length) ≠ [] := by rw [HALL.out]; simp [decDigits_ne_nil]
   gi_wp2_with fail;refine ⟨trivial, ?_⟩;refine CallsIn.mono (callsIn_wide.2 (Tryz.Builder_String_k (w.heap.size + 1) (w.heap.size + 1) _ W hI hne2)) ?_;rintro e W5 ⟨rfl, _, hb5, hk5⟩;have hK5 : W5.heap[D]? = some (.deferred (some [])) := hk5 _ _ hK (by simp at hD ⊢; omega) (by simp);gi_wp2_with fail;refine ⟨by simp, .inl ⟨_, _, rfl, run_takeDeferred hK5, ?_⟩⟩;refine ⟨_, results_tmp rfl _ _ _, ?_⟩;refine ⟨_, rfl, by rw [<- HALL.out]; rfl, ?_⟩;have hbb : Below w.heap.size w W5 := HB2.out.trans ((hB.trans hb5).mono (by omega));exact hbb.trans (belowK_b (w := w) (Nat.le_refl _) W5 D _ _ (by simp at hD; omega) hK5 rfl rfl)
  ·rintro D c pre W _ _ h _
   exact h.elim
 case true =>
  gi_wp2_with fail;rw [<- hW2];clear hW2;refine ⟨trivial, ?_⟩;refine CallsIn.mono (callsIn_wide.2 (writeByte_any (w.heap.size + 1) (w.heap.size + 1) [] 45 W2 HFR.out (by simp) (by omega))) ?_;rintro e W1 ⟨rfl, hbu, hbw, _⟩;have hnum1 := zcq hbw (by simp) hnum;gi_wp2_with fail;have hbu : Lib.IsBuilderF 225 5 (w.heap.size + 1) (w.heap.size + 1) (Lib.byteCells (signL true)) W1 := Or.inr (by simpa [signL, Lib.byteCells] using hbu);clear hnum1;refine ⟨trivial, ?_⟩;refine CallsIn.mono (callsIn_wide.2 (backward_any _ _ _ _)) ?_;rintro e w3 ⟨rfl, rfl⟩;gi_wp2_with fail;have hsz1 : W2.heap.size <= W1.heap.size := hbw.size;have hb0 : Below (w.heap.size + 1) W2 (W1.alloc (.cells #[.slice p xs.length c] 180)) := hbw.alloc (by omega) _;have hbW : Below w.heap.size w (W1.alloc (.cells #[.slice p xs.length c] 180)) := HB2.out.trans (hb0.mono (by omega));have hr2 : xs ≠ [] -> ∃ b off, p = some ⟨b, off, none⟩ /\ b < w.heap.size + 1 /\ ∀ (i : Nat) (hi : i < xs.length), (W1.alloc (.cells #[.slice p xs.length c] 180)).cell? ⟨b, off + i, none⟩ = some (.int .u64 ((xs[i] : Nat) : Int)) := fun hne => by
   obtain ⟨b, off, hp, hbl, hcell⟩ := HR.out hne;exact ⟨b, off, hp, by omega, fun i hi => (zcq hbW hbl (hcell i hi) :)⟩
  refine wpIn_rangeFunc_ownF rfl h1 (gf := 202) (lb := #[.pointer (some ⟨W1.heap.size, 0, none⟩)]) rfl trivial (enters_of Tryz.func202 (by kernel_rfl) rfl)
   (bwd_stops Fence.wide (n - 1) trivial rfl (by omega) W1.heap.size (w.heap.size + 1) _ c xs hlen _ (by simp) (by simp; omega) (World.cell?_alloc_at _ _ _ _ rfl) hr2) (fun h k => KeepAt.trans h k) (keepAt_b (by simp; omega) (by simp)) (Below.refl _ _) (fun _ => rfl)
   (fun (pre : List (Ix xs)) W => Lib.IsBuilderF 225 5 (w.heap.size + 1) (w.heap.size + 1) (Lib.byteCells (signL true ++ pieces xs (pre.map Subtype.val))) W /\ Below (w.heap.size + 1) W2 W /\ W1.heap.size < W.heap.size /\ W.heap[W1.heap.size]? = some (.cells #[.slice p xs.length c] 180))
   (fun _ _ _ => False)
   (fun s A B row hs hg' hr => ⟨builder_own hs.1 hg' (fun r e => (hr r e).2), hs.2.1.grown hg' (by have := hs.2.1.size; omega) (fun r e => by have := (hr r e).1; simp at this; omega), by have := hg'.size; omega, (grownBy_keeps_cells hg' (fun r e => (hr r e).2) hs.2.2.2 rfl).trans hs.2.2.2⟩)
   (fun _ _ _ _ _ hs _ _ => hs)
   ⟨by simpa [pieces_nil] using Lib.IsBuilderF.alloc hbu _, hb0, by simp, heap_alloc_new _ _⟩
   (fun ix => { tmps := #[.agg #[.bool true, .slice p xs.length c], .pointer (some ⟨w.heap.size, 0, none⟩), .string ⟨#[]⟩, .pointer (some ⟨w.heap.size + 1, 0, none⟩), .int .i64 (ix.1 : Int), .int .u64 (((xs[ix.1]?.getD 0) : Nat) : Int), undef, .pointer (some ⟨w.heap.size, 1, none⟩), .slice p xs.length c, .int .i64 (xs.length : Int), .bool false, .pointer (some ⟨w.heap.size, 0, none⟩), .bool true, .nilIface, .pointer (some ⟨w.heap.size, 1, none⟩), .slice p xs.length c, .func (.func 202) #[] #[.pointer (some ⟨W1.heap.size, 0, none⟩)], .int .i64 (ix.1 : Int), .int .u64 (((xs[ix.1]?.getD 0) : Nat) : Int), undef, undef, undef, undef, undef, undef, undef, undef, undef, undef, undef, undef, undef, undef, undef], defers := [] }) ?_ ?_ ?_ ?_
  ·intro l x W K hK
   dsimp only [encBwd]
   gi_wp2
   exact hK
  ·rintro l pre ix W ⟨hI, hB, hlt1, hbox⟩ hpl
   generalize hi0 : ix.1 = i;have HI0 := Lib.hid hi0;clear hi0;have hgW : Good W := hg.below (HB2.out.trans (hB.mono (by omega)));have hx9 := getD_lt9 HLT.out i;have hpl9 := pieces_len HLT.out (pre.map Subtype.val);rw [List.length_map] at hpl9;have hnumW := zcq hB (by simp) hnum;gi_wp2_with fail;refine ⟨trivial, by intro; omega, ?_⟩;refine CallsIn.mono (CallsIn.inRound l (callsIn_wide.2 (formatUint_any (xs[i]?.getD 0) _ rfl (Nat.lt_of_lt_of_le hx9 (by decide)) W hgW))) ?_;rintro e W3 ⟨_, rfl, rfl, hb3⟩;have hnum3 := zcq hb3 (by show w.heap.size < W.heap.size; omega) hnumW;have hI3 := isB_below hI hb3;have hB3 : Below (w.heap.size + 1) W2 W3 := hB.trans (hb3.mono (by omega));have hko3 : KeepsOthers W W3 := keepsOthers_below hb3;have hsz3 := hb3.size;have hbox3 : W3.heap[W1.heap.size]? = some (.cells #[.slice p xs.length c] 180) := (hb3.block _ hlt1).trans hbox;have hKA3 : KeepAt (w.heap.size + 1) W1.heap.size W W3 := ⟨hb3.mono (by omega), hbox3.trans hbox.symm⟩;have hdl := dec_len9 hx9;have hbs : (BS (decDigits (xs[i]?.getD 0))).size <= 9 := by rw [BS_size]; exact hdl
   have hplen : (signL true ++ pieces xs (pre.map Subtype.val)).length + 18 <= 1000000000 := by
    have : (signL true).length <= 1 := by decide
    simp only [List.length_append]; omega
   clear hb3 hnumW hbox hB hI hgW;by_cases hi : i < xs.length - 1
   ·have hi1 : (i : Int) < (xs.length : Int) - 1 := by omega
    have hpz := piece_lt hi;have hzz := zeros_extract (l := decDigits (xs[i]?.getD 0)) hdl;gi_wp2_with fail;refine ⟨trivial, by intro; omega, ?_⟩;refine CallsIn.mono (CallsIn.inRound l (callsIn_wide.2 (writeString_any (w.heap.size + 1) (w.heap.size + 1) _ _ W3 hI3 (by rw [byteCells_len, BS_size, List.length_replicate]; omega) (by omega)))) ?_;rintro e W4 ⟨rfl, hb4⟩;have hko4 := keepsOthers_built hb4 (isB_cells hI3);have hsz4 := hb4.2.1.size;have hbox4 : W4.heap[W1.heap.size]? = some (.cells #[.slice p xs.length c] 180) := hb4.2.2 _ _ hbox3 (by simp; omega) (by simp);have hI4 : Lib.IsBuilderF 225 5 (w.heap.size + 1) (w.heap.size + 1) _ W4 := Or.inr hb4.1;gi_wp2_with fail;refine ⟨trivial, by intro; omega, ?_⟩;refine CallsIn.mono (CallsIn.inRound l (callsIn_wide.2 (writeString_any (w.heap.size + 1) (w.heap.size + 1) _ _ W4 hI4 (by simp only [List.length_append, byteCells_len, strCells_BS, List.length_replicate]; simp only [List.length_append] at hplen; rw [BS_size]; omega) (by omega)))) ?_;rintro e W5 ⟨rfl, hb5⟩;have hko5 := keepsOthers_built hb5 (isB_cells hI4);have hsz5 := hb5.2.1.size;have hbox5 : W5.heap[W1.heap.size]? = some (.cells #[.slice p xs.length c] 180) := hb5.2.2 _ _ hbox4 (by simp; omega) (by simp);gi_wp2_with fail;have hfin : Lib.IsBuilderF 225 5 (w.heap.size + 1) (w.heap.size + 1) (Lib.byteCells (signL true ++ pieces xs ((pre ++ [ix]).map Subtype.val))) W5 := by
     refine Or.inr ?_;rw [List.map_append, List.map_cons, List.map_nil, HI0.out, pieces_snoc, hpz];simpa [strCells_BS, Lib.byteCells] using hb5.1
    exact ⟨(hko3.trans hko4).trans hko5, ⟨(hKA3.1.trans hb4.2.1).trans hb5.2.1, hbox5.trans (hbox3.symm.trans hKA3.2)⟩, hfin, (hB3.trans hb4.2.1).trans hb5.2.1, by omega, hbox5⟩
   ·have hi1 : ¬ (i : Int) < (xs.length : Int) - 1 := by omega
    have hpz := piece_ge hi;gi_wp2_with fail;refine ⟨trivial, by intro; omega, ?_⟩;refine CallsIn.mono (CallsIn.inRound l (callsIn_wide.2 (writeString_any (w.heap.size + 1) (w.heap.size + 1) _ _ W3 hI3 (by rw [byteCells_len]; omega) (by omega)))) ?_;rintro e W5 ⟨rfl, hb5⟩;have hko5 := keepsOthers_built hb5 (isB_cells hI3);have hsz5 := hb5.2.1.size;have hbox5 : W5.heap[W1.heap.size]? = some (.cells #[.slice p xs.length c] 180) := hb5.2.2 _ _ hbox3 (by simp; omega) (by simp);gi_wp2_with fail;have hfin : Lib.IsBuilderF 225 5 (w.heap.size + 1) (w.heap.size + 1) (Lib.byteCells (signL true ++ pieces xs ((pre ++ [ix]).map Subtype.val))) W5 := by
     refine Or.inr ?_;rw [List.map_append, List.map_cons, List.map_nil, HI0.out, pieces_snoc, hpz];simpa [strCells_BS, Lib.byteCells] using hb5.1
    exact ⟨hko3.trans hko5, ⟨hKA3.1.trans hb5.2.1, hbox5.trans (hbox3.symm.trans hKA3.2)⟩, hfin, hB3.trans hb5.2.1, by omega, hbox5⟩
  ·rintro D ys W hD hys ⟨hI, hB, hlt1, hbox⟩ hK
   rw [hys] at hI;clear hys;have hne2 : signL true ++ pieces xs (bwd xs.length xs.length) ≠ [] := by rw [HALL.out]; simp [decDigits_ne_nil]
   gi_wp2_with fail;refine ⟨trivial, ?_⟩;refine CallsIn.mono (callsIn_wide.2 (Tryz.Builder_String_k (w.heap.size + 1) (w.heap.size + 1) _ W hI hne2)) ?_;rintro e W5 ⟨rfl, _, hb5, hk5⟩;have hK5 : W5.heap[D]? = some (.deferred (some [])) := hk5 _ _ hK (by simp at hD ⊢; omega) (by simp);gi_wp2_with fail;refine ⟨by simp, .inl ⟨_, _, rfl, run_takeDeferred hK5, ?_⟩⟩;refine ⟨_, results_tmp rfl _ _ _, ?_⟩;refine ⟨_, rfl, by rw [<- HALL.out]; rfl, ?_⟩;have hbb : Below w.heap.size w W5 := HB2.out.trans ((hB.trans hb5).mono (by omega));exact hbb.trans (belowK_b (w := w) (Nat.le_refl _) W5 D _ _ (by simp at hD; omega) hK5 rfl rfl)
  ·rintro D c pre W _ _ h _
   exact h.elim
theorem close_any (w : World) (v : Value) (m : Bool) (k : Nat) (hrd : Rd .u64 w v (lm B9 k)) (hlen : (lm B9 k).length <= 1000000) (hg : Good w) :
 Calls Tryz.prog 119 #[.agg #[.bool m, v]] w (Ret (fun r _ => r = .string (IS (if m then -(k : Int) else k))) w) := by
 rcases Nat.eq_zero_or_pos k with rfl | hk
 ·rw [lm_zero] at hrd
  refine (close_zero w v m hrd).mono ?_;rintro e w' ⟨_, rfl, rfl, hb⟩;exact ⟨_, rfl, by cases m <;> rfl, hb⟩
 ·refine (callsIn_wide.1 (close_in 6 (by omega) w v m k hk hrd hlen hg)).mono ?_
  rintro e w' ⟨_, rfl, rfl, hb⟩;refine ⟨_, rfl, ?_, hb⟩;congr 1;cases m
  ·show BS (decDigits k) = IS (k : Int)
   unfold IS; rw [itoa_nat]; rfl
  ·show BS (45 :: decDigits k) = IS (-(k : Int))
   unfold IS; rw [itoa_neg (by omega)]; simp [BS]
end Go.Proofs.YtgdpoankaojklaaGreatDoor
