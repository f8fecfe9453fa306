/- klippelaw12.none, klippelaw12.sameMesh. -/
import Derived.Test.YtccngnjkehibiaaGreatDoorM12
import Derived.Laws.StructEq
namespace Go.Proofs.YtccngnjkehibiaaGreatDoor
open Go.RowKit Go.Lib

set_option maxRecDepth 100000 in
theorem none_true (w : World) :
    Calls Tryz.prog 16 #[.agg #[.slice none 0 0, .slice none 0 0]] w (Ret (fun r _ => r = .bool true) w) := by
  go_enter Tryz.func16, Tryz.ntmps16
  go_wp2_with fail
  go_ret
  exact ⟨_, rfl, rfl, (Below.refl _ _).alloc (Nat.le_refl _) _⟩

theorem eqPt (x y : ByteArray) (w : World) : Sem.run Tryz.prog (Op.equalIn 10000 24 (.agg #[.string x, .string y]) (.agg #[.string x, .string y])) w = .ok true w := by
  have u3 := Tryz.underlying22
  have a3 := Tryz.isAgg22
  have z3 := Tryz.sizeOf22
  have hS : Tryz.prog.underlying 24 = some (.struct (Tryz.prog.fieldsOf 24)) := by kernel_rfl
  have hp : Tryz.prog.stoodInHeld 24 = false := by kernel_rfl
  rw [show (10000 : Nat) = 9999 + 1 from rfl, run_equalIn_agg w 9999 24 _ _ hS hp]
  simp only [Program.fieldsOf, Tryz.underlying24]
  go_simp
theorem eqTri (a b c : Int) (w : World) : Sem.run Tryz.prog (Op.equalIn 10000 42 (.agg #[.int .i64 a, .int .i64 b, .int .i64 c]) (.agg #[.int .i64 a, .int .i64 b, .int .i64 c])) w = .ok true w := by
  have u3 := Tryz.underlying3
  have a3 := Tryz.isAgg3
  have z3 := Tryz.sizeOf3
  rw [show (10000 : Nat) = 9999 + 1 from rfl, Op.equalIn]
  simp only [Sem.run_bind, run_underlying Tryz.underlying42, Result.andThen_ok]
  simp only [Std.Legacy.Range.forIn_eq_forIn_range', Std.Legacy.Range.size, Nat.sub_zero, Nat.add_sub_cancel, Nat.div_one, List.range'_succ, List.range'_zero, List.forIn_cons, List.forIn_nil]
  go_simp

set_option maxHeartbeats 2000000 in
set_option maxRecDepth 100000 in
theorem sameMesh_true (w : World) (v1 t1 v2 t2 : Value) (P : List (ByteArray × ByteArray)) (T : List Tri) (hp1 : RdP w v1 P) (ht1 : RdT w t1 T) (hp2 : RdP w v2 P) (ht2 : RdT w t2 T) :
    Calls Tryz.prog 21 #[.agg #[v1, t1], .agg #[v2, t2]] w (Ret (fun r _ => r = .bool true) w) := by
  have HEP := Lib.hid eqPt
  have HET := Lib.hid eqTri
  obtain ⟨pp1, cp1, rfl, hm1, hm2, hc1⟩ := hp1.open
  obtain ⟨pt1, ct1, rfl, hm3, hm4, hd1⟩ := ht1.open
  have hPl : P.length ≤ 9223372036854775807 := by unfold maxLen at hm2; omega
  have hTl : T.length ≤ 9223372036854775807 := by unfold maxLen at hm4; omega
  obtain ⟨pp2, cp2, rfl, _, _, hc2⟩ := hp2.open
  obtain ⟨pt2, ct2, rfl, _, _, hd2⟩ := ht2.open
  have HC1 := Lib.hid hc1
  have HC2 := Lib.hid hc2
  have HD1 := Lib.hid hd1
  have HD2 := Lib.hid hd2
  have hlp : ((P.length : Int) != (P.length : Int)) = false := bne_self_eq_false _
  have hlt : ((T.length : Int) != (T.length : Int)) = false := bne_self_eq_false _
  clear hp1 hp2 ht1 ht2 hc1 hc2 hd1 hd2 hm1 hm2 hm3 hm4
  go_enter Tryz.func21, Tryz.ntmps21
  go_wp2_with fail
  obtain ⟨W, hW⟩ : ∃ W, W = (w.alloc (.cells #[.slice pp1 P.length cp1, .slice pt1 T.length ct1] 34)).alloc (.cells #[.slice pp2 P.length cp2, .slice pt2 T.length ct2] 34) := ⟨_, rfl⟩
  have hB : Below w.heap.size w W := by rw [hW]; exact ((Below.refl _ _).alloc (Nat.le_refl _) _).alloc (by simp) _
  have b2 : BoxN W (w.heap.size + 1) 34 [.slice pp2 P.length cp2, .slice pt2 T.length ct2] := by rw [hW]; exact BoxN.new _ _ _ _ (by simp)
  have b1 : BoxN W w.heap.size 34 [.slice pp1 P.length cp1, .slice pt1 T.length ct1] := by
    rw [hW]
    have h1 := (BoxN.new w #[.slice pp1 P.length cp1, .slice pt1 T.length ct1] 34 _ rfl)
    exact h1.below ((Below.refl _ _).alloc (Nat.le_refl _) _) h1.lt
  rw [← hW]
  clear hW
  go_loopw [5] (fun t5 wr => ∃ i : Nat, t5 = .int .i64 i ∧ i ≤ P.length ∧ Below W.heap.size W wr) (fun t5 _ => P.length - (RowKit.intOf t5).toNat)
  case atStart => exact ⟨0, rfl, Nat.zero_le _, Below.refl _ _⟩
  case round =>
    obtain ⟨i, rfl, hi, hbr⟩ := hrel
    have hBr := hB.trans (hbr.mono hB.size)
    have a0 := (b1.below hbr b1.lt).cell 0 rfl
    have c0 := (b2.below hbr b2.lt).cell 0 rfl
    rcases Nat.lt_or_ge i P.length with h | h
    · obtain ⟨g1, o1, rfl, hg1, hcc1⟩ := HC1.out (List.ne_nil_of_length_pos (by omega))
      obtain ⟨g2, o2, rfl, hg2, hcc2⟩ := HC2.out (List.ne_nil_of_length_pos (by omega))
      obtain ⟨e0, e1⟩ := hcc1 i h
      obtain ⟨f0, f1⟩ := hcc2 i h
      obtain ⟨⟨x, y⟩, hxy⟩ : ∃ z, z = P[i] := ⟨_, rfl⟩
      rw [← hxy] at e0 e1 f0 f1
      dsimp only at e0 e1 f0 f1
      have eqP := HEP.out x y
      have d0 := (hBr.cell (p := ⟨g1, o1 + i * 2, none⟩) hg1).trans e0
      have d1 := (hBr.cell (p := ⟨g1, o1 + i * 2 + 1, none⟩) hg1).trans e1
      have d2 := (hBr.cell (p := ⟨g2, o2 + i * 2, none⟩) hg2).trans f0
      have d3 := (hBr.cell (p := ⟨g2, o2 + i * 2 + 1, none⟩) hg2).trans f1
      have hiz : (i : Int) < (P.length : Int) := by omega
      clear hcc1 hcc2 e0 e1 f0 f1 hxy
      go_wp2_with fail
      go_region
      all_goals
        go_wp2_with fail
        go_roundw
        case rel => exact ⟨i + 1, by go_num, by omega, hbr.trans ((below_drewN wr 1).mono hbr.size)⟩
        case measure =>
          show P.length - ((i : Int) + 1).toNat < P.length - (i : Int).toNat
          omega
    · have hige : (P.length : Int) ≤ (i : Int) := by omega
      have b1m := b1.below hbr b1.lt
      have b2m := b2.below hbr b2.lt
      go_wp2_with fail
      go_loopw [6] (fun t6 wx => ∃ i : Nat, t6 = .int .i64 i ∧ i ≤ T.length ∧ Below wr.heap.size wr wx) (fun t6 _ => T.length - (RowKit.intOf t6).toNat)
      case atStart => exact ⟨0, rfl, Nat.zero_le _, Below.refl _ _⟩
      case round =>
        obtain ⟨j, rfl, hj, hbx⟩ := hrel
        have hBx := hBr.trans (hbx.mono hBr.size)
        have a1 := (b1m.below hbx b1m.lt).cell 1 rfl
        have c1 := (b2m.below hbx b2m.lt).cell 1 rfl
        clear a0 c0
        rcases Nat.lt_or_ge j T.length with h2 | h2
        · obtain ⟨g1, o1, rfl, hg1, hcc1⟩ := HD1.out (List.ne_nil_of_length_pos (by omega))
          obtain ⟨g2, o2, rfl, hg2, hcc2⟩ := HD2.out (List.ne_nil_of_length_pos (by omega))
          obtain ⟨e0, e1, e2⟩ := hcc1 j h2
          obtain ⟨f0, f1, f2⟩ := hcc2 j h2
          obtain ⟨⟨x, y, z⟩, hxy⟩ : ∃ z, z = T[j] := ⟨_, rfl⟩
          rw [← hxy] at e0 e1 e2 f0 f1 f2
          dsimp only at e0 e1 e2 f0 f1 f2
          have eqT := HET.out x y z
          have d0 := (hBx.cell (p := ⟨g1, o1 + j * 3, none⟩) hg1).trans e0
          have d1 := (hBx.cell (p := ⟨g1, o1 + j * 3 + 1, none⟩) hg1).trans e1
          have d2 := (hBx.cell (p := ⟨g1, o1 + j * 3 + 2, none⟩) hg1).trans e2
          have d3 := (hBx.cell (p := ⟨g2, o2 + j * 3, none⟩) hg2).trans f0
          have d4 := (hBx.cell (p := ⟨g2, o2 + j * 3 + 1, none⟩) hg2).trans f1
          have d5 := (hBx.cell (p := ⟨g2, o2 + j * 3 + 2, none⟩) hg2).trans f2
          have hjz : (j : Int) < (T.length : Int) := by omega
          clear hcc1 hcc2 e0 e1 e2 f0 f1 f2 hxy
          go_wp2_with fail
          go_region
          all_goals
            go_wp2_with fail
            go_roundw
            case rel => exact ⟨j + 1, by go_num, by omega, hbx.trans ((below_drewN _ 1).mono hbx.size)⟩
            case measure =>
              show T.length - ((j : Int) + 1).toNat < T.length - (j : Int).toNat
              omega
        · have hjge : (T.length : Int) ≤ (j : Int) := by omega
          go_wp2_with fail
          go_ret
          exact ⟨_, rfl, rfl, hBx⟩
end Go.Proofs.YtccngnjkehibiaaGreatDoor
